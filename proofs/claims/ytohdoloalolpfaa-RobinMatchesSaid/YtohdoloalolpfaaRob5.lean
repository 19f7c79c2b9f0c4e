import Derived.Test.YtohdoloalolpfaaRob4
namespace Go.Proofs.Ytohdoloalolpfaa
open Go Go.RowKit
set_option maxRecDepth 100000
set_option maxHeartbeats 1000000
set_option linter.unusedSimpArgs false
set_option linter.unusedVariables false
attribute [local irreducible] aops dRun
/-- what Match answers -/
def mRes (g t : Ty) : List Bd × Int := if g.right && t.right then if (g.match t []).1 then (haveB g (g.match t []).2, 0) else ([], 7) else ([], 1)
theorem mRes_arg {g t : Ty} (h : (g.right && t.right) = false) : mRes g t = ([], 1) := by rw [mRes, if_neg (by rw [h]; simp)]
theorem mRes_clash {g t : Ty} (h1 : (g.right && t.right) = true) (h2 : (g.match t []).1 = false) : mRes g t = ([], 7) := by rw [mRes, if_pos h1, if_neg (by rw [h2]; simp)]
theorem mRes_ok {g t : Ty} (h1 : (g.right && t.right) = true) (h2 : (g.match t []).1 = true) : mRes g t = (haveB g (g.match t []).2, 0) := by rw [mRes, if_pos h1, if_pos h2]
def hB (m : List (Int × Ty)) (v : Int) : Bd := ⟨v, (pfind m v).getD (.mk 0 0 [])⟩
theorem hB_cells {m : List (Int × Ty)} {v : Int} {x : Ty} (h : pfind m v = some x) : (hB m v).cells = .v (.int .i64 v) :: x.cells := by rw [hB, h]; rfl
theorem haveB_eq (g : Ty) (m : List (Int × Ty)) : haveB g m = (g.rvars []).map (hB m) := rfl
def wB (g t : Ty) (v : Int) : Bd := ⟨v, (g.stand v t).getD (.mk 0 0 [])⟩
theorem wantB_eq (g t : Ty) : wantB g t = (g.rvars []).map (wB g t) := rfl
theorem wB_cells (g t : Ty) (v : Int) : (wB g t v).cells = .v (.int .i64 v) :: ((g.stand v t).getD (.mk 0 0 [])).cells := rfl
theorem Und.oslB {n id : Nat} {l : List Bd} (h : id < n) : Und n (.osl id 4 (l.map Bd.cells)) := .osl h (.data (Bd.dataSl l))
theorem Und.oslB1 {n id : Nat} {l : List Bd} {v : Int} {x : Ty} (h : id < n) : Und n (.osl id 4 (l.map Bd.cells ++ [.v (.int .i64 v) :: x.cells])) := by
  have := Und.oslB (l := l ++ [⟨v, x⟩]) h
  rwa [List.map_append] at this
theorem Und.intsV {n : Nat} {l : List Int} : Und n (.sl 1 (l.map intC)) := .data (dataInts l)
theorem notAnyRight : ∀ ps : List Ty, (!ps.any fun p => !p.right) = ps.all Ty.right
  | [] => rfl
  | p :: ps => by rw [List.any_cons, List.all_cons, Bool.not_or, Bool.not_not, notAnyRight ps]
theorem zTy_le : LeL [.v (.int .i64 0), .v (.int .i64 0), .v (.slice none 0 0)] (Ty.mk 0 0 []).cells := by rw [Ty.cells_eq]; exact ⟨.refl _, .refl _, Le.slNil 3, trivial⟩
theorem RightA_pure (p : Ty) : APure Try.prog 88 [.agg p.cells] (.v (.bool (!p.right))) := by
  refine APure.mkL (.cons p.dataAgg .nil) (.v _) ?_
  refine ACalls_intro Try.func88 (by kernel_rfl) rfl (by rw [Try.ntmps88]; simp) (fun hm => ?_)
  simp only [Try.ntmps88, Try.results88, List.length_cons, List.length_nil, Nat.reduceAdd, Nat.reduceSub, List.replicate_succ, List.replicate_zero, List.cons_append, List.nil_append]
  simp only [Ty.cells_eq p, List.cons_append, List.nil_append]
  refine AWp_seqK fun K1 hK1 => ?_
  refine AWp_region ?_
  simp only [↓aops, ↓aop, ↓aWant, ↓aVal, bS, bA, AV.flat, AV.cl, AV.one, Value.oneCell', thenQ, blockQ, noGotoQ, ↓reduceIte, Nat.reduceEqDiff, reduceCtorEq, tyX]
  refine hK1 _ ?_
  try clear hK1 K1
  refine AWp_seqK fun K2 hK2 => ?_
  refine AWp_region ?_
  refine aops_chunk 1 fun C3 hC3 => ?_
  simp only [bL, ↓aops, ↓aop, ↓aWant, ↓aVal, bS, bA, AV.flat, AV.cl, AV.one, Value.oneCell', thenQ, blockQ, noGotoQ, ↓reduceIte, Nat.reduceEqDiff, reduceCtorEq, aLoad, ti32, getO, pack, Nat.reduceAdd, Nat.reduceLeDiff, tyX]
  refine hC3 _ ?_
  try clear hC3 C3
  simp only [bL]
  refine aops_chunk 1 fun C4 hC4 => ?_
  simp only [bL, ↓aops, ↓aop, ↓aWant, ↓aVal, bS, bA, AV.flat, AV.cl, AV.one, Value.oneCell', thenQ, blockQ, noGotoQ, ↓reduceIte, Nat.reduceEqDiff, reduceCtorEq, aCallV, tyX]
  refine APure.call (by have h9 := Right_pure p; rw [Ty.cells_eq p] at h9; exact h9) ?_
  try simp only [bS, bA, thenQ, blockQ, noGotoQ]
  refine hC4 _ ?_
  try clear hC4 C4
  simp only [bL]
  simp only [↓aops, ↓aop, ↓aWant, ↓aVal, bS, bA, AV.flat, AV.cl, AV.one, Value.oneCell', thenQ, blockQ, noGotoQ, ↓reduceIte, Nat.reduceEqDiff, reduceCtorEq, aUn, tyX]
  refine hK2 _ ?_
  try clear hK2 K2
  refine AWp_ret ?_
  try simp only [thenQ, blockQ, noGotoQ, retQ, aRes, tupOf, bS, bA]
  exact Le.refl _
theorem RightL_pure (ps : List Ty) : APure Try.prog 61 [.sl 3 (ps.map Ty.cells)] (.v (.bool (ps.all Ty.right))) := by
  refine APure.mkL (.cons (Ty.dataSl ps) .nil) (.v _) ?_
  refine ACalls_intro Try.func61 (by kernel_rfl) rfl (by rw [Try.ntmps61]; simp) (fun hm => ?_)
  simp only [Try.ntmps61, Try.results61, List.length_cons, List.length_nil, Nat.reduceAdd, Nat.reduceSub, List.replicate_succ, List.replicate_zero, List.cons_append, List.nil_append]
  refine AWp_seqK fun K1 hK1 => ?_
  refine AWp_region ?_
  simp only [↓aops, ↓aop, ↓aWant, ↓aVal, bS, bA, AV.flat, AV.cl, AV.one, Value.oneCell', thenQ, blockQ, noGotoQ, ↓reduceIte, Nat.reduceEqDiff, reduceCtorEq, tyX]
  refine hK1 _ ?_
  try clear hK1 K1
  refine AWp_seqK fun K2 hK2 => ?_
  refine AWp_region ?_
  refine aops_chunk 1 fun C3 hC3 => ?_
  simp only [bL, ↓aops, ↓aop, ↓aWant, ↓aVal, bS, bA, AV.flat, AV.cl, AV.one, Value.oneCell', thenQ, blockQ, noGotoQ, ↓reduceIte, Nat.reduceEqDiff, reduceCtorEq, tyX]
  refine hC3 _ ?_
  try clear hC3 C3
  simp only [bL]
  refine aops_chunk 1 fun C4 hC4 => ?_
  simp only [bL, ↓aops, ↓aop, ↓aWant, ↓aVal, bS, bA, AV.flat, AV.cl, AV.one, Value.oneCell', thenQ, blockQ, noGotoQ, ↓reduceIte, Nat.reduceEqDiff, reduceCtorEq, aCallV, tyX]
  refine APure.call (ContainsFuncTy_pure ps 88 (fun p => !p.right) fun p _ => RightA_pure p) ?_
  try simp only [bS, bA, thenQ, blockQ, noGotoQ]
  refine hC4 _ ?_
  try clear hC4 C4
  simp only [bL]
  simp only [↓aops, ↓aop, ↓aWant, ↓aVal, bS, bA, AV.flat, AV.cl, AV.one, Value.oneCell', thenQ, blockQ, noGotoQ, ↓reduceIte, Nat.reduceEqDiff, reduceCtorEq, aUn, tyX]
  refine hK2 _ ?_
  try clear hK2 K2
  refine AWp_ret ?_
  try simp only [thenQ, blockQ, noGotoQ, retQ, aRes, tupOf, bS, bA]
  exact Le.of_eq (congrArg (fun b => AV.v (.bool b)) (notAnyRight ps))
theorem Match_pure (T U : Ty) (hT : T.cnt ≤ 1099511627776) (hU : U.cnt ≤ 1099511627776) : APure Try.prog 30 [.agg T.cells, .agg U.cells] (.tup [.sl 4 ((mRes T U).1.map Bd.cells), .v (.int .i64 (mRes T U).2)]) := by
  refine APure.mkL (.cons T.dataAgg (.cons U.dataAgg .nil)) ((.tup (.cons (Bd.dataSl _) (.cons (.v _) .nil)))) ?_
  refine ACalls_intro Try.func30 (by kernel_rfl) rfl (by rw [Try.ntmps30]; simp) (fun hm => ?_)
  simp only [Try.ntmps30, Try.results30, List.length_cons, List.length_nil, Nat.reduceAdd, Nat.reduceSub, List.replicate_succ, List.replicate_zero, List.cons_append, List.nil_append]
  have hrp := RightL_pure [T, U]
  simp only [List.map_cons, List.map_nil, List.all_cons, List.all_nil, Bool.and_true] at hrp
  have hvp := Vars_pure [T] (by simp only [Ty.cntL]; omega)
  simp only [List.map_cons, List.map_nil, Ty.rvarsL] at hvp
  have hvl := T.rvars_len []
  simp only [List.length_nil] at hvl
  refine AWp_seqK fun K1 hK1 => ?_
  refine AWp_region ?_
  refine aops_chunk 3 fun C2 hC2 => ?_
  simp only [bL, ↓aops, ↓aop, ↓aWant, ↓aVal, bS, bA, AV.flat, AV.cl, AV.one, Value.oneCell', thenQ, blockQ, noGotoQ, ↓reduceIte, Nat.reduceEqDiff, reduceCtorEq, tyX, Bd.take1, Bd.drop1, Bd.cells_len, Bd.one, ↓valAV_ty]
  refine hC2 _ ?_
  try clear hC2 C2
  simp only [bL]
  simp only [↓aops, ↓aop, ↓aWant, ↓aVal, bS, bA, AV.flat, AV.cl, AV.one, Value.oneCell', thenQ, blockQ, noGotoQ, ↓reduceIte, Nat.reduceEqDiff, reduceCtorEq, tyX, Bd.take1, Bd.drop1, Bd.cells_len, Bd.one, ↓valAV_ty]
  refine hK1 _ ?_
  try clear hK1 K1
  refine AWp_seqK fun K3 hK3 => ?_
  refine AWp_region ?_
  simp only [↓aops, ↓aop, ↓aWant, ↓aVal, bS, bA, AV.flat, AV.cl, AV.one, Value.oneCell', thenQ, blockQ, noGotoQ, ↓reduceIte, Nat.reduceEqDiff, reduceCtorEq, tyX, Bd.take1, Bd.drop1, Bd.cells_len, Bd.one, ↓valAV_ty]
  refine hK3 _ ?_
  try clear hK3 K3
  refine AWp_seqK fun K4 hK4 => ?_
  refine AWp_block ?_
  refine AWp_seqK fun K5 hK5 => ?_
  refine AWp_region ?_
  refine aops_chunk 3 fun C6 hC6 => ?_
  simp only [bL, ↓aops, ↓aop, ↓aWant, ↓aVal, bS, bA, AV.flat, AV.cl, AV.one, Value.oneCell', thenQ, blockQ, noGotoQ, ↓reduceIte, Nat.reduceEqDiff, reduceCtorEq, aLoad, ti32, getO, pack, Nat.reduceAdd, Nat.reduceLeDiff, ↓bs2_1, ↓bs2_2, ↓bs2_3, ↓bs2_4, ↓bs2_5, ↓bs2_6, ↓bs2_7, ↓bs2_8, ↓bs2_9, ↓bs2_10, ↓bs2_11, ↓bs2_12, aBuildSl, ei22, List.range_succ, List.range_zero, List.forall_mem_cons, List.not_mem_nil, false_imp_iff, implies_true, forall_eq, List.mem_singleton, tyX, Bd.take1, Bd.drop1, Bd.cells_len, Bd.one, ↓valAV_ty]
  refine hC6 _ ?_
  try clear hC6 C6
  simp only [bL]
  refine aops_chunk 1 fun C7 hC7 => ?_
  simp only [bL, ↓aops, ↓aop, ↓aWant, ↓aVal, bS, bA, AV.flat, AV.cl, AV.one, Value.oneCell', thenQ, blockQ, noGotoQ, ↓reduceIte, Nat.reduceEqDiff, reduceCtorEq, aCallV, tyX, Bd.take1, Bd.drop1, Bd.cells_len, Bd.one, ↓valAV_ty]
  refine APure.call (hrp) ?_
  try simp only [bS, bA, thenQ, blockQ, noGotoQ]
  refine hC7 _ ?_
  try clear hC7 C7
  simp only [bL]
  simp only [↓aops, ↓aop, ↓aWant, ↓aVal, bS, bA, AV.flat, AV.cl, AV.one, Value.oneCell', thenQ, blockQ, noGotoQ, ↓reduceIte, Nat.reduceEqDiff, reduceCtorEq, aUn, tyX, Bd.take1, Bd.drop1, Bd.cells_len, Bd.one, ↓valAV_ty]
  refine hK5 _ ?_
  try clear hK5 K5
  refine AWp_cond rfl (fun hb11 => ?_) (fun hb11 => ?_)
  · skip
    have hr : (T.right && U.right) = false := by cases hv : (T.right && U.right) with | false => rfl | true => rw [hv] at hb11; cases hb11
    refine AWp_seqK fun K8 hK8 => ?_
    refine AWp_region ?_
    simp only [↓aops, ↓aop, ↓aWant, ↓aVal, bS, bA, AV.flat, AV.cl, AV.one, Value.oneCell', thenQ, blockQ, noGotoQ, ↓reduceIte, Nat.reduceEqDiff, reduceCtorEq, tyX, Bd.take1, Bd.drop1, Bd.cells_len, Bd.one, ↓valAV_ty]
    refine hK8 _ ?_
    try clear hK8 K8
    refine AWp_ret ?_
    try simp only [thenQ, blockQ, noGotoQ, retQ, aRes, tupOf, bS, bA]
    rw [mRes_arg hr]
    exact Le.tup ⟨Le.slNil 4, .refl _, trivial⟩
  · skip
    have hr : (T.right && U.right) = true := by cases hv : (T.right && U.right) with | true => rfl | false => rw [hv] at hb11; cases hb11
    have hr2 : T.right = true ∧ U.right = true := by simpa using hr
    refine AWp_seqK fun K9 hK9 => ?_
    refine AWp_region ?_
    refine aops_chunk 3 fun C10 hC10 => ?_
    simp only [bL, ↓aops, ↓aop, ↓aWant, ↓aVal, bS, bA, AV.flat, AV.cl, AV.one, Value.oneCell', thenQ, blockQ, noGotoQ, ↓reduceIte, Nat.reduceEqDiff, reduceCtorEq, aLoad, ti32, getO, pack, Nat.reduceAdd, Nat.reduceLeDiff, tyX, Bd.take1, Bd.drop1, Bd.cells_len, Bd.one, ↓valAV_ty]
    refine hC10 _ ?_
    try clear hC10 C10
    simp only [bL]
    refine aops_chunk 1 fun C11 hC11 => ?_
    simp only [bL, ↓aops, ↓aop, ↓aWant, ↓aVal, bS, bA, AV.flat, AV.cl, AV.one, Value.oneCell', thenQ, blockQ, noGotoQ, ↓reduceIte, Nat.reduceEqDiff, reduceCtorEq, aCallV, tyX, Bd.take1, Bd.drop1, Bd.cells_len, Bd.one, ↓valAV_ty]
    refine MCalls.at (match_calls T U []) (.cons T.dataAgg (.cons U.dataAgg .nil)) (.v _) (i := 2) rfl (by first | omega | (simp only; omega)) ?_
    simp only [putO, Nat.reduceEqDiff, ↓reduceIte]
    try simp only [bS, bA, thenQ, blockQ, noGotoQ]
    refine hC11 _ ?_
    try clear hC11 C11
    simp only [bL]
    simp only [↓aops, ↓aop, ↓aWant, ↓aVal, bS, bA, AV.flat, AV.cl, AV.one, Value.oneCell', thenQ, blockQ, noGotoQ, ↓reduceIte, Nat.reduceEqDiff, reduceCtorEq, aUn, tyX, Bd.take1, Bd.drop1, Bd.cells_len, Bd.one, ↓valAV_ty]
    refine hK9 _ ?_
    try clear hK9 K9
    refine AWp_cond rfl (fun hb17 => ?_) (fun hb17 => ?_)
    · skip
      have hmt : (T.match U []).1 = false := by cases hv : (T.match U []).1 with | false => rfl | true => rw [hv] at hb17; cases hb17
      refine AWp_seqK fun K12 hK12 => ?_
      refine AWp_region ?_
      simp only [↓aops, ↓aop, ↓aWant, ↓aVal, bS, bA, AV.flat, AV.cl, AV.one, Value.oneCell', thenQ, blockQ, noGotoQ, ↓reduceIte, Nat.reduceEqDiff, reduceCtorEq, tyX, Bd.take1, Bd.drop1, Bd.cells_len, Bd.one, ↓valAV_ty]
      refine hK12 _ ?_
      try clear hK12 K12
      refine AWp_ret ?_
      try simp only [thenQ, blockQ, noGotoQ, retQ, aRes, tupOf, bS, bA]
      rw [mRes_clash hr hmt]
      exact Le.tup ⟨Le.slNil 4, .refl _, trivial⟩
    · skip
      have hmt : (T.match U []).1 = true := by cases hv : (T.match U []).1 with | true => rfl | false => rw [hv] at hb17; cases hb17
      have hmo := Ty.match_ok T hr2.1 U [] hr2.2 hmt
      refine AWp_skip ?_
      try simp only [thenQ, blockQ, noGotoQ]
      refine hK4 _ ?_
      try clear hK4 K4
      refine AWp_seqK fun K13 hK13 => ?_
      refine AWp_region ?_
      simp only [↓aops, ↓aop, ↓aWant, ↓aVal, bS, bA, AV.flat, AV.cl, AV.one, Value.oneCell', thenQ, blockQ, noGotoQ, ↓reduceIte, Nat.reduceEqDiff, reduceCtorEq, tyX, Bd.take1, Bd.drop1, Bd.cells_len, Bd.one, ↓valAV_ty]
      refine hK13 _ ?_
      try clear hK13 K13
      refine AWp_seqK fun K14 hK14 => ?_
      refine AWp_seqK fun K15 hK15 => ?_
      refine AWp_region ?_
      refine aops_chunk 2 fun C16 hC16 => ?_
      simp only [bL, ↓aops, ↓aop, ↓aWant, ↓aVal, bS, bA, AV.flat, AV.cl, AV.one, Value.oneCell', thenQ, blockQ, noGotoQ, ↓reduceIte, Nat.reduceEqDiff, reduceCtorEq, aLoad, ti32, getO, pack, Nat.reduceAdd, Nat.reduceLeDiff, ↓bs1_1, ↓bs1_2, ↓bs1_3, ↓bs1_4, ↓bs1_5, ↓bs1_6, ↓bs1_7, ↓bs1_8, ↓bs1_9, ↓bs1_10, ↓bs1_11, ↓bs1_12, aBuildSl, ei22, List.range_succ, List.range_zero, List.forall_mem_cons, List.not_mem_nil, false_imp_iff, implies_true, forall_eq, List.mem_singleton, tyX, Bd.take1, Bd.drop1, Bd.cells_len, Bd.one, ↓valAV_ty]
      refine hC16 _ ?_
      try clear hC16 C16
      simp only [bL]
      refine aops_chunk 1 fun C17 hC17 => ?_
      simp only [bL, ↓aops, ↓aop, ↓aWant, ↓aVal, bS, bA, AV.flat, AV.cl, AV.one, Value.oneCell', thenQ, blockQ, noGotoQ, ↓reduceIte, Nat.reduceEqDiff, reduceCtorEq, aCallV, tyX, Bd.take1, Bd.drop1, Bd.cells_len, Bd.one, ↓valAV_ty]
      refine APure.call (hvp) ?_
      try simp only [bS, bA, thenQ, blockQ, noGotoQ]
      refine hC17 _ ?_
      try clear hC17 C17
      simp only [bL]
      simp only [↓aops, ↓aop, ↓aWant, ↓aVal, bS, bA, AV.flat, AV.cl, AV.one, Value.oneCell', thenQ, blockQ, noGotoQ, ↓reduceIte, Nat.reduceEqDiff, reduceCtorEq, aLen, ln28, List.length_map, tyX, Bd.take1, Bd.drop1, Bd.cells_len, Bd.one, ↓valAV_ty]
      refine hK15 _ ?_
      try clear hK15 K15
      refine AWp_block ?_
      refine AWp_weak (Weak.tokSlot 7 103 4 rfl) ?_
      simp only [List.set_cons_zero, List.set_cons_succ]
      refine AWp_loopM (σ := Nat) [false, false, false, false, false, false, true, true, false, false, false, false, false, false, false, false, false, false, false, false, false, false, false, false, false, true, true, true, false, false, false, false, false, false, false, false, false, false, false, false, false, false] (fun s => s ≤ (T.rvars []).length) (fun s => [(7, .osl 3 4 ((((T.rvars []).take s).map (hB (T.match U []).2)).map Bd.cells)), (27, .v (.int .i64 (s : Int)))]) (fun s => [(3, .tok 103 4 s)]) (fun s => (T.rvars []).length - s) 0 (by omega) ?_ (fun s hs => ?_)
      · skip
        simp only [maskL, setsL, putsO, putO, bA, Nat.reduceEqDiff, ↓reduceIte, bL]
        exact Weak.mk (by simp only [LeL, Le.refl, Le.any, Le.slNil, and_self, Int.natCast_add, Int.cast_ofNat_Int, Int.natCast_one]) (fun _ _ h => h) rfl rfl
      simp only [maskL, setsL, putsO, putO, bA, Nat.reduceEqDiff, ↓reduceIte]
      refine AWp_seqK fun K18 hK18 => ?_
      refine AWp_region ?_
      simp only [↓aops, ↓aop, ↓aWant, ↓aVal, bS, bA, AV.flat, AV.cl, AV.one, Value.oneCell', thenQ, blockQ, noGotoQ, ↓reduceIte, Nat.reduceEqDiff, reduceCtorEq, aBin, tyX, Bd.take1, Bd.drop1, Bd.cells_len, Bd.one, ↓valAV_ty]
      refine hK18 _ ?_
      try clear hK18 K18
      refine AWp_seqK fun K19 hK19 => ?_
      refine AWp_cond rfl (fun hb28 => ?_) (fun hb28 => ?_)
      · skip
        have hk : s < (T.rvars []).length := by simpa using hb28
        obtain ⟨v, hv⟩ : ∃ v, (T.rvars [])[s]? = some v := ⟨_, List.getElem?_eq_getElem hk⟩
        obtain ⟨x, hx⟩ := hmo.has v (List.mem_of_getElem? hv)
        have hxc : x.cnt ≤ 1099511627776 := by rcases hmo.new v x hx with h9 | h9 <;> first | (simp [pfind] at h9; done) | (have := Ty.stand_cnt v T U x h9.1; omega)
        have hw : IntKind.i64.wrap ((s : Int) + 1) = (s : Int) + 1 := wrap_in (by omega) (by omega)
        have hln : ((((T.rvars []).take s).map (hB (T.match U []).2)).map Bd.cells).length = s := by simp; omega
        have hb1 : (s + 1) * 48 ≤ 140737488355328 := by omega
        have hb2 : s + 1 ≤ maxLen := by simp only [maxLen]; omega
        refine AWp_skip ?_
        try simp only [thenQ, blockQ, noGotoQ]
        refine hK19 _ ?_
        try clear hK19 K19
        refine AWp_seqK fun K20 hK20 => ?_
        refine AWp_block ?_
        refine AWp_seqK fun K21 hK21 => ?_
        refine AWp_region ?_
        simp only [↓aops, ↓aop, ↓aWant, ↓aVal, bS, bA, AV.flat, AV.cl, AV.one, Value.oneCell', thenQ, blockQ, noGotoQ, ↓reduceIte, Nat.reduceEqDiff, reduceCtorEq, aIndexA, es28, Int.natCast_nonneg, Int.ofNat_lt, Int.toNat_natCast, List.length_map, Int.le_refl, Int.toNat_zero, Int.toNat_one, Int.reduceLE, aLoad, ti3, getO, pack, bL, Nat.reduceAdd, Nat.reduceLeDiff, tyX, Bd.take1, Bd.drop1, Bd.cells_len, Bd.one, ↓valAV_ty, hk, getD_map_cells hv, intC, mGet hx, Int.natCast_add, Int.natCast_one, hw, hln, hb1, hb2, List.map_append, take_map_step (hB (T.match U []).2) hv, hB_cells hx]
        refine hK21 _ ?_
        try clear hK21 K21
        refine AWp_region ?_
        refine aops_chunk 3 fun C22 hC22 => ?_
        simp only [bL, ↓aops, ↓aop, ↓aWant, ↓aVal, bS, bA, AV.flat, AV.cl, AV.one, Value.oneCell', thenQ, blockQ, noGotoQ, ↓reduceIte, Nat.reduceEqDiff, reduceCtorEq, tyX, Bd.take1, Bd.drop1, Bd.cells_len, Bd.one, ↓valAV_ty, hk, getD_map_cells hv, intC, mGet hx, Int.natCast_add, Int.natCast_one, hw, hln, hb1, hb2, List.map_append, take_map_step (hB (T.match U []).2) hv, hB_cells hx, Nat.reduceAdd, Nat.reduceLeDiff]
        refine hC22 _ ?_
        try clear hC22 C22
        simp only [bL]
        refine aops_chunk 2 fun C23 hC23 => ?_
        simp only [bL, ↓aops, ↓aop, ↓aWant, ↓aVal, bS, bA, AV.flat, AV.cl, AV.one, Value.oneCell', thenQ, blockQ, noGotoQ, ↓reduceIte, Nat.reduceEqDiff, reduceCtorEq, aLookup, mz98, getO, valAV, tyX, Bd.take1, Bd.drop1, Bd.cells_len, Bd.one, ↓valAV_ty, hk, getD_map_cells hv, intC, mGet hx, Int.natCast_add, Int.natCast_one, hw, hln, hb1, hb2, List.map_append, take_map_step (hB (T.match U []).2) hv, hB_cells hx, Nat.reduceAdd, Nat.reduceLeDiff]
        refine hC23 _ ?_
        try clear hC23 C23
        simp only [bL]
        refine aops_chunk 1 fun C24 hC24 => ?_
        simp only [bL, ↓aops, ↓aop, ↓aWant, ↓aVal, bS, bA, AV.flat, AV.cl, AV.one, Value.oneCell', thenQ, blockQ, noGotoQ, ↓reduceIte, Nat.reduceEqDiff, reduceCtorEq, aCallV, tyX, Bd.take1, Bd.drop1, Bd.cells_len, Bd.one, ↓valAV_ty, hk, getD_map_cells hv, intC, mGet hx, Int.natCast_add, Int.natCast_one, hw, hln, hb1, hb2, List.map_append, take_map_step (hB (T.match U []).2) hv, hB_cells hx, Nat.reduceAdd, Nat.reduceLeDiff]
        refine APure.call (Copy_pure x hxc) ?_
        try simp only [bS, bA, thenQ, blockQ, noGotoQ]
        refine hC24 _ ?_
        try clear hC24 C24
        simp only [bL]
        refine aops_chunk 3 fun C25 hC25 => ?_
        simp only [bL, ↓aops, ↓aop, ↓aWant, ↓aVal, bS, bA, AV.flat, AV.cl, AV.one, Value.oneCell', thenQ, blockQ, noGotoQ, ↓reduceIte, Nat.reduceEqDiff, reduceCtorEq, aBuild, zc103, pc103, aFill, splice, Nat.reduceAdd, Nat.reduceLeDiff, ↓bs1_1, ↓bs1_2, ↓bs1_3, ↓bs1_4, ↓bs1_5, ↓bs1_6, ↓bs1_7, ↓bs1_8, ↓bs1_9, ↓bs1_10, ↓bs1_11, ↓bs1_12, aBuildSl, ei53, List.range_succ, List.range_zero, List.forall_mem_cons, List.not_mem_nil, false_imp_iff, implies_true, forall_eq, List.mem_singleton, aAppend, slOf, List.length_map, getO, putO, tyX, Bd.take1, Bd.drop1, Bd.cells_len, Bd.one, ↓valAV_ty, hk, getD_map_cells hv, intC, mGet hx, Int.natCast_add, Int.natCast_one, hw, hln, hb1, hb2, List.map_append, take_map_step (hB (T.match U []).2) hv, hB_cells hx]
        refine hC25 _ ?_
        try clear hC25 C25
        simp only [bL]
        simp only [↓aops, ↓aop, ↓aWant, ↓aVal, bS, bA, AV.flat, AV.cl, AV.one, Value.oneCell', thenQ, blockQ, noGotoQ, ↓reduceIte, Nat.reduceEqDiff, reduceCtorEq, tyX, Bd.take1, Bd.drop1, Bd.cells_len, Bd.one, ↓valAV_ty, hk, getD_map_cells hv, intC, mGet hx, Int.natCast_add, Int.natCast_one, hw, hln, hb1, hb2, List.map_append, bL, take_map_step (hB (T.match U []).2) hv, hB_cells hx, Nat.reduceAdd, Nat.reduceLeDiff]
        refine hK20 _ ?_
        try clear hK20 K20
        refine AWp_region ?_
        simp only [↓aops, ↓aop, ↓aWant, ↓aVal, bS, bA, AV.flat, AV.cl, AV.one, Value.oneCell', thenQ, blockQ, noGotoQ, ↓reduceIte, Nat.reduceEqDiff, reduceCtorEq, aBin, tyX, Bd.take1, Bd.drop1, Bd.cells_len, Bd.one, ↓valAV_ty, hk, getD_map_cells hv, intC, mGet hx, Int.natCast_add, Int.natCast_one, hw, hln, hb1, hb2, List.map_append, bL, take_map_step (hB (T.match U []).2) hv, hB_cells hx, Nat.reduceAdd, Nat.reduceLeDiff]
        refine ⟨(s + 1), (by omega), by omega, ?_⟩
        simp only [maskL, setsL, putsO, putO, bA, Nat.reduceEqDiff, ↓reduceIte, hk, getD_map_cells hv, intC, mGet hx, Int.natCast_add, Int.natCast_one, hw, hln, hb1, hb2, List.map_append, bL, take_map_step (hB (T.match U []).2) hv, hB_cells hx, Nat.reduceAdd, Nat.reduceLeDiff]
        exact Weak.mk (by simp only [LeL, Le.refl, Le.any, Le.slNil, and_self, Int.natCast_add, Int.cast_ofNat_Int, Int.natCast_one]) (fun _ _ h => h) rfl rfl
      · skip
        have hk : s = (T.rvars []).length := by simp at hb28; omega
        refine AWp_exit ?_
        simp only [thenQ, blockQ, noGotoQ, bA, Nat.reduceEqDiff, ↓reduceIte]
        refine hK14 _ ?_
        try clear hK14 K14
        refine AWp_seqK fun K26 hK26 => ?_
        refine AWp_region ?_
        simp only [↓aops, ↓aop, ↓aWant, ↓aVal, bS, bA, AV.flat, AV.cl, AV.one, Value.oneCell', thenQ, blockQ, noGotoQ, ↓reduceIte, Nat.reduceEqDiff, reduceCtorEq, tyX, Bd.take1, Bd.drop1, Bd.cells_len, Bd.one, ↓valAV_ty]
        refine hK26 _ ?_
        try clear hK26 K26
        refine AWp_ret ?_
        try simp only [thenQ, blockQ, noGotoQ, retQ, aRes, tupOf, bS, bA]
        rw [mRes_ok hr hmt, haveB_eq]
        rw [hk, List.take_length]
        exact Le.tup ⟨Le.oslL, .refl _, trivial⟩
theorem At_pure : ∀ (T : Ty) (U : Ty) (v : Int), APure Try.prog 66 [.agg T.cells, .agg U.cells, .v (.int .i64 v)] (.tup [.agg ((T.stand v U).getD (.mk 0 0 [])).cells, .v (.bool (T.stand v U).isSome)]) := by
  refine Ty.ind fun T ih => ?_
  intro U v
  refine APure.mkL (.cons T.dataAgg (.cons U.dataAgg (.cons (.v _) .nil))) ((.tup (.cons (Ty.dataAgg _) (.cons (.v _) .nil)))) ?_
  refine ACalls_intro Try.func66 (by kernel_rfl) rfl (by rw [Try.ntmps66]; simp) (fun hm => ?_)
  simp only [Try.ntmps66, Try.results66, List.length_cons, List.length_nil, Nat.reduceAdd, Nat.reduceSub, List.replicate_succ, List.replicate_zero, List.cons_append, List.nil_append]
  have hm1 := (hm.wide (t := T) (by simp)).len
  simp only [Ty.cells_eq T, Ty.cells_eq U, List.cons_append, List.nil_append]
  refine AWp_seqK fun K1 hK1 => ?_
  refine AWp_region ?_
  refine aops_chunk 3 fun C2 hC2 => ?_
  simp only [bL, ↓aops, ↓aop, ↓aWant, ↓aVal, bS, bA, AV.flat, AV.cl, AV.one, Value.oneCell', thenQ, blockQ, noGotoQ, ↓reduceIte, Nat.reduceEqDiff, reduceCtorEq, zc32, tyX]
  refine hC2 _ ?_
  try clear hC2 C2
  simp only [bL]
  simp only [↓aops, ↓aop, ↓aWant, ↓aVal, bS, bA, AV.flat, AV.cl, AV.one, Value.oneCell', thenQ, blockQ, noGotoQ, ↓reduceIte, Nat.reduceEqDiff, reduceCtorEq, tyX]
  refine hK1 _ ?_
  try clear hK1 K1
  refine AWp_seqK fun K3 hK3 => ?_
  refine AWp_seqK fun K4 hK4 => ?_
  refine AWp_region ?_
  refine aops_chunk 3 fun C5 hC5 => ?_
  simp only [bL, ↓aops, ↓aop, ↓aWant, ↓aVal, bS, bA, AV.flat, AV.cl, AV.one, Value.oneCell', thenQ, blockQ, noGotoQ, ↓reduceIte, Nat.reduceEqDiff, reduceCtorEq, aField, fo32_0, Nat.reduceAdd, aLoad, ti3, getO, pack, Nat.reduceLeDiff, aBin, tyX]
  refine hC5 _ ?_
  try clear hC5 C5
  simp only [bL]
  refine aops_chunk 1 fun C6 hC6 => ?_
  simp only [bL, ↓aops, ↓aop, ↓aWant, ↓aVal, bS, bA, AV.flat, AV.cl, AV.one, Value.oneCell', thenQ, blockQ, noGotoQ, ↓reduceIte, Nat.reduceEqDiff, reduceCtorEq, tyX]
  refine hC6 _ ?_
  try clear hC6 C6
  simp only [bL]
  refine aops_case 14 rfl (fun hc14 => ?_) (fun hc14 => ?_)
  · simp only [List.set_cons_zero, List.set_cons_succ]
    have hk1 : T.k = 1 := by simpa using hc14
    refine aops_chunk 3 fun C7 hC7 => ?_
    simp only [bL, ↓aops, ↓aop, ↓aWant, ↓aVal, bS, bA, AV.flat, AV.cl, AV.one, Value.oneCell', thenQ, blockQ, noGotoQ, ↓reduceIte, Nat.reduceEqDiff, reduceCtorEq, undef, aField, fo32_1, Nat.reduceAdd, aLoad, ti3, getO, pack, Nat.reduceLeDiff, tyX]
    refine hC7 _ ?_
    try clear hC7 C7
    simp only [bL]
    simp only [↓aops, ↓aop, ↓aWant, ↓aVal, bS, bA, AV.flat, AV.cl, AV.one, Value.oneCell', thenQ, blockQ, noGotoQ, ↓reduceIte, Nat.reduceEqDiff, reduceCtorEq, bL, undef, aBin, aBool, tyX]
    refine hK4 _ ?_
    try clear hK4 K4
    refine AWp_cond rfl (fun hb19 => ?_) (fun hb19 => ?_)
    · skip
      have hyes : T.k = 1 ∧ T.n = v := ⟨hk1, by simpa using hb19⟩
      refine AWp_seqK fun K8 hK8 => ?_
      refine AWp_region ?_
      simp only [↓aops, ↓aop, ↓aWant, ↓aVal, bS, bA, AV.flat, AV.cl, AV.one, Value.oneCell', thenQ, blockQ, noGotoQ, ↓reduceIte, Nat.reduceEqDiff, reduceCtorEq, aLoad, ti32, getO, pack, bL, Nat.reduceAdd, Nat.reduceLeDiff, aStore, putO, splice, tyX]
      refine hK8 _ ?_
      try clear hK8 K8
      refine AWp_ret ?_
      try simp only [thenQ, blockQ, noGotoQ, retQ, aRes, tupOf, bS, bA, aLoad, getO, pack, bL, Nat.reduceAdd, Nat.reduceLeDiff, Nat.reduceEqDiff, ↓reduceIte, ti32, tyX]
      first | (rw [Ty.stand_eq v T U, if_pos hyes]; exact Le.tup ⟨.agg (by simp only [Option.getD_some, Ty.cells_eq U]; exact LeL.refl _), .refl _, trivial⟩) | (obtain ⟨y, hy⟩ := Option.isSome_iff_exists.1 (by exact hb50); have h9 := Ty.standL_some hp hq hy hs.2.2; rw [Ty.stand_eq v T U, if_neg hno, h9, hy]; exact Le.refl _) | (rw [Ty.stand_eq v T U, if_neg hno, hE]; exact Le.tup ⟨.agg zTy_le, .refl _, trivial⟩)
    · skip
      have hno : ¬ (T.k = 1 ∧ T.n = v) := fun h9 => by simp [h9.2] at hb19
      refine AWp_skip ?_
      try simp only [thenQ, blockQ, noGotoQ]
      refine hK3 _ ?_
      try clear hK3 K3
      refine AWp_joinC [false, false, false, false, false, false, true, false, false, false, false, false, false, false, false, false, false, false, false, false, false, false, false, false, false, false, false, false, false, false, false, false, false, false, false, false, false, false, false, false, false, false, false, false, false, false, false, false, false, false, false, false, false] ([]) ([]) (Ty.standL v T.ps U.ps = none) ?_ (fun hE => ?_)
      · skip
        refine AWp_seqK fun K9 hK9 => ?_
        refine AWp_region ?_
        simp only [↓aops, ↓aop, ↓aWant, ↓aVal, bS, bA, AV.flat, AV.cl, AV.one, Value.oneCell', thenQ, blockQ, noGotoQ, ↓reduceIte, Nat.reduceEqDiff, reduceCtorEq, tyX]
        refine hK9 _ ?_
        try clear hK9 K9
        refine AWp_block ?_
        refine AWp_loopM (σ := Nat) [false, false, true, true, true, false, true, false, true, false, false, false, false, false, false, false, false, false, false, false, false, false, false, false, false, false, false, false, false, false, false, false, false, false, false, false, false, false, false, false, false, false, false, false, false, false, false, false, false, false, false, false, false] (fun s => s ≤ T.ps.length ∧ s ≤ U.ps.length ∧ ∀ (i : Nat) (p q : Ty), i < s → T.ps[i]? = some p → U.ps[i]? = some q → p.stand v q = none) (fun s => [(8, .v (.int .i64 (s : Int)))]) (fun s => []) (fun s => T.ps.length - s) 0 (⟨by omega, by omega, fun i p q hi => by omega⟩) ?_ (fun s hs => ?_)
        · skip
          simp only [maskL, setsL, putsO, putO, bA, Nat.reduceEqDiff, ↓reduceIte]
          exact Weak.mk (by simp only [LeL, Le.refl, Le.any, Le.slNil, and_self, Int.natCast_add, Int.cast_ofNat_Int, Int.natCast_one]) (fun _ _ h => h) rfl rfl
        simp only [maskL, setsL, putsO, putO, bA, Nat.reduceEqDiff, ↓reduceIte]
        refine AWp_seqK fun K10 hK10 => ?_
        refine AWp_seqK fun K11 hK11 => ?_
        refine AWp_region ?_
        refine aops_chunk 3 fun C12 hC12 => ?_
        simp only [bL, ↓aops, ↓aop, ↓aWant, ↓aVal, bS, bA, AV.flat, AV.cl, AV.one, Value.oneCell', thenQ, blockQ, noGotoQ, ↓reduceIte, Nat.reduceEqDiff, reduceCtorEq, aField, fo32_2, Nat.reduceAdd, aLoad, ti22, getO, pack, Nat.reduceLeDiff, tyX]
        refine hC12 _ ?_
        try clear hC12 C12
        simp only [bL]
        refine aops_chunk 3 fun C13 hC13 => ?_
        simp only [bL, ↓aops, ↓aop, ↓aWant, ↓aVal, bS, bA, AV.flat, AV.cl, AV.one, Value.oneCell', thenQ, blockQ, noGotoQ, ↓reduceIte, Nat.reduceEqDiff, reduceCtorEq, aLen, ln22, List.length_map, aBin, tyX]
        refine hC13 _ ?_
        try clear hC13 C13
        simp only [bL]
        refine aops_case 26 rfl (fun hc26 => ?_) (fun hc26 => ?_)
        · simp only [List.set_cons_zero, List.set_cons_succ]
          have hk : s < T.ps.length := by simpa using hc26
          obtain ⟨p, hp⟩ : ∃ p, T.ps[s]? = some p := ⟨_, List.getElem?_eq_getElem hk⟩
          have hw : IntKind.i64.wrap ((s : Int) + 1) = (s : Int) + 1 := wrap_in (by omega) (by simp only [maxLen] at hm1; omega)
          refine aops_chunk 3 fun C14 hC14 => ?_
          simp only [bL, ↓aops, ↓aop, ↓aWant, ↓aVal, bS, bA, AV.flat, AV.cl, AV.one, Value.oneCell', thenQ, blockQ, noGotoQ, ↓reduceIte, Nat.reduceEqDiff, reduceCtorEq, undef, aField, fo32_2, Nat.reduceAdd, aLoad, ti22, getO, pack, Nat.reduceLeDiff, tyX]
          refine hC14 _ ?_
          try clear hC14 C14
          simp only [bL]
          simp only [↓aops, ↓aop, ↓aWant, ↓aVal, bS, bA, AV.flat, AV.cl, AV.one, Value.oneCell', thenQ, blockQ, noGotoQ, ↓reduceIte, Nat.reduceEqDiff, reduceCtorEq, bL, undef, aLen, ln22, List.length_map, aBin, aBool, tyX]
          refine hK11 _ ?_
          try clear hK11 K11
          refine AWp_cond rfl (fun hb32 => ?_) (fun hb32 => ?_)
          · skip
            have hk2 : s < U.ps.length := by simpa using hb32
            obtain ⟨q, hq⟩ : ∃ q, U.ps[s]? = some q := ⟨_, List.getElem?_eq_getElem hk2⟩
            refine AWp_skip ?_
            try simp only [thenQ, blockQ, noGotoQ]
            refine hK10 _ ?_
            try clear hK10 K10
            refine AWp_seqK fun K15 hK15 => ?_
            refine AWp_block ?_
            refine AWp_seqK fun K16 hK16 => ?_
            refine AWp_drawKF 16 [14] mixed (by kernel_rfl) (fun _ _ h => h) fun K17 hK17 => ?_
            simp only [bL]
            refine dRun_chunk 3 fun C18 hC18 => ?_
            simp only [bL, ↓dRun, ↓dOp, ↓aops, ↓aop, ↓aWant, ↓aVal, bS, bA, AV.flat, AV.cl, AV.one, Value.oneCell', thenQ, blockQ, noGotoQ, ↓reduceIte, Nat.reduceEqDiff, reduceCtorEq, aField, fo32_2, Nat.reduceAdd, aLoad, ti22, getO, pack, Nat.reduceLeDiff, tyX, hk, hk2, getD_map_cells hp, getD_map_cells hq, Int.natCast_add, Int.natCast_one, hw]
            refine hC18 _ ?_
            try clear hC18 C18
            simp only [bL]
            refine dRun_chunk 3 fun C19 hC19 => ?_
            simp only [bL, ↓dRun, ↓dOp, ↓aops, ↓aop, ↓aWant, ↓aVal, bS, bA, AV.flat, AV.cl, AV.one, Value.oneCell', thenQ, blockQ, noGotoQ, ↓reduceIte, Nat.reduceEqDiff, reduceCtorEq, aIndexA, es22, Int.natCast_nonneg, Int.ofNat_lt, Int.toNat_natCast, List.length_map, Int.le_refl, Int.toNat_zero, Int.toNat_one, Int.reduceLE, aLoad, ti32, getO, pack, Nat.reduceAdd, Nat.reduceLeDiff, aField, fo32_2, tyX, hk, hk2, getD_map_cells hp, getD_map_cells hq, Int.natCast_add, Int.natCast_one, hw]
            refine hC19 _ ?_
            try clear hC19 C19
            simp only [bL]
            refine dRun_chunk 3 fun C20 hC20 => ?_
            simp only [bL, ↓dRun, ↓dOp, ↓aops, ↓aop, ↓aWant, ↓aVal, bS, bA, AV.flat, AV.cl, AV.one, Value.oneCell', thenQ, blockQ, noGotoQ, ↓reduceIte, Nat.reduceEqDiff, reduceCtorEq, aLoad, ti22, getO, pack, Nat.reduceAdd, Nat.reduceLeDiff, aIndexA, es22, Int.natCast_nonneg, Int.ofNat_lt, Int.toNat_natCast, List.length_map, Int.le_refl, Int.toNat_zero, Int.toNat_one, Int.reduceLE, tyX, hk, hk2, getD_map_cells hp, getD_map_cells hq, Int.natCast_add, Int.natCast_one, hw]
            refine hC20 _ ?_
            try clear hC20 C20
            simp only [bL]
            refine dRun_chunk 2 fun C21 hC21 => ?_
            simp only [bL, ↓dRun, ↓dOp, ↓aops, ↓aop, ↓aWant, ↓aVal, bS, bA, AV.flat, AV.cl, AV.one, Value.oneCell', thenQ, blockQ, noGotoQ, ↓reduceIte, Nat.reduceEqDiff, reduceCtorEq, aLoad, ti32, getO, pack, Nat.reduceAdd, Nat.reduceLeDiff, tyX, hk, hk2, getD_map_cells hp, getD_map_cells hq, Int.natCast_add, Int.natCast_one, hw]
            refine hC21 _ ?_
            try clear hC21 C21
            simp only [bL]
            refine dRun_chunk 1 fun C22 hC22 => ?_
            simp only [bL, ↓dRun, ↓dOp, ↓aops, ↓aop, ↓aWant, ↓aVal, bS, bA, AV.flat, AV.cl, AV.one, Value.oneCell', thenQ, blockQ, noGotoQ, ↓reduceIte, Nat.reduceEqDiff, reduceCtorEq, aCallV, tyX, hk, hk2, getD_map_cells hp, getD_map_cells hq, Int.natCast_add, Int.natCast_one, hw]
            refine ⟨_, ih p (List.mem_of_getElem? hp) q v, ?_⟩
            try simp only [bS, bA, thenQ, blockQ, noGotoQ]
            refine hC22 _ ?_
            try clear hC22 C22
            simp only [bL]
            refine dRun_chunk 3 fun C23 hC23 => ?_
            simp only [bL, ↓dRun, ↓dOp, ↓aops, ↓aop, ↓aWant, ↓aVal, bS, bA, AV.flat, AV.cl, AV.one, Value.oneCell', thenQ, blockQ, noGotoQ, ↓reduceIte, Nat.reduceEqDiff, reduceCtorEq, aExtract, Nat.reduceAdd, Nat.reduceLT, Nat.zero_lt_succ, tyX, hk, hk2, getD_map_cells hp, getD_map_cells hq, Int.natCast_add, Int.natCast_one, hw]
            refine hC23 _ ?_
            try clear hC23 C23
            simp only [bL]
            simp only [↓dRun, ↓dOp, bL, ↓aops, ↓aop, ↓aWant, ↓aVal, bS, bA, AV.flat, AV.cl, AV.one, Value.oneCell', thenQ, blockQ, noGotoQ, ↓reduceIte, Nat.reduceEqDiff, reduceCtorEq, zc32, tyX, hk, hk2, getD_map_cells hp, getD_map_cells hq, Int.natCast_add, Int.natCast_one, hw]
            refine hK17 _ ?_
            try clear hK17 K17
            simp only [bL]
            simp only [↓aops, ↓aop, ↓aWant, ↓aVal, bS, bA, AV.flat, AV.cl, AV.one, Value.oneCell', thenQ, blockQ, noGotoQ, ↓reduceIte, Nat.reduceEqDiff, reduceCtorEq, aStore, ti32, getO, putO, splice, bL, Nat.reduceAdd, Nat.reduceLeDiff, tyX, hk, hk2, getD_map_cells hp, getD_map_cells hq, Int.natCast_add, Int.natCast_one, hw]
            refine hK16 _ ?_
            try clear hK16 K16
            refine AWp_seqK fun K24 hK24 => ?_
            refine AWp_region ?_
            simp only [↓aops, ↓aop, ↓aWant, ↓aVal, bS, bA, AV.flat, AV.cl, AV.one, Value.oneCell', thenQ, blockQ, noGotoQ, ↓reduceIte, Nat.reduceEqDiff, reduceCtorEq, tyX, hk, hk2, getD_map_cells hp, getD_map_cells hq, Int.natCast_add, Int.natCast_one, hw]
            refine hK24 _ ?_
            try clear hK24 K24
            refine AWp_cond rfl (fun hb50 => ?_) (fun hb50 => ?_)
            · skip
              refine AWp_seqK fun K25 hK25 => ?_
              refine AWp_region ?_
              simp only [↓aops, ↓aop, ↓aWant, ↓aVal, bS, bA, AV.flat, AV.cl, AV.one, Value.oneCell', thenQ, blockQ, noGotoQ, ↓reduceIte, Nat.reduceEqDiff, reduceCtorEq, aLoad, ti32, getO, pack, bL, Nat.reduceAdd, Nat.reduceLeDiff, aStore, putO, splice, tyX, hk, hk2, getD_map_cells hp, getD_map_cells hq, Int.natCast_add, Int.natCast_one, hw]
              refine hK25 _ ?_
              try clear hK25 K25
              refine AWp_ret ?_
              try simp only [thenQ, blockQ, noGotoQ, retQ, aRes, tupOf, bS, bA, aLoad, getO, pack, bL, Nat.reduceAdd, Nat.reduceLeDiff, Nat.reduceEqDiff, ↓reduceIte, ti32, tyX, hk, hk2, getD_map_cells hp, getD_map_cells hq, Int.natCast_add, Int.natCast_one, hw]
              first | (rw [Ty.stand_eq v T U, if_pos hyes]; exact Le.tup ⟨.agg (by simp only [Option.getD_some, Ty.cells_eq U]; exact LeL.refl _), .refl _, trivial⟩) | (obtain ⟨y, hy⟩ := Option.isSome_iff_exists.1 (by exact hb50); have h9 := Ty.standL_some hp hq hy hs.2.2; rw [Ty.stand_eq v T U, if_neg hno, h9, hy]; exact Le.refl _) | (rw [Ty.stand_eq v T U, if_neg hno, hE]; exact Le.tup ⟨.agg zTy_le, .refl _, trivial⟩)
            · skip
              refine AWp_skip ?_
              try simp only [thenQ, blockQ, noGotoQ]
              refine hK15 _ ?_
              try clear hK15 K15
              refine AWp_region ?_
              simp only [↓aops, ↓aop, ↓aWant, ↓aVal, bS, bA, AV.flat, AV.cl, AV.one, Value.oneCell', thenQ, blockQ, noGotoQ, ↓reduceIte, Nat.reduceEqDiff, reduceCtorEq, aBin, tyX, hk, hk2, getD_map_cells hp, getD_map_cells hq, Int.natCast_add, Int.natCast_one, hw]
              refine ⟨(s + 1), ⟨by omega, by omega, fun i p' q' hi h1 h2 => (by rcases Nat.lt_or_ge i s with h3 | h3 <;> first | exact hs.2.2 i p' q' h3 h1 h2 | (obtain rfl : i = s := (by omega); rw [hp] at h1; rw [hq] at h2; cases h1; cases h2; cases hz : p.stand v q with | none => rfl | some y => rw [hz] at hb50; cases hb50))⟩, by omega, ?_⟩
              simp only [maskL, setsL, putsO, putO, bA, Nat.reduceEqDiff, ↓reduceIte, hk, hk2, getD_map_cells hp, getD_map_cells hq, Int.natCast_add, Int.natCast_one, hw]
              first | (refine Weak.drops 1 3 rfl rfl (by simp only; omega) (by simp only; omega) ?_ ?_ ?_) | (refine Weak.drops 0 3 rfl rfl (by simp only; omega) (by simp only; omega) ?_ ?_ ?_)
              · simp only [LeL, Le.refl, Le.any, and_self, Int.natCast_add, Int.cast_ofNat_Int, Int.natCast_one]
              · simp only [UndL, UndOs, Ob.Und, and_true, true_and, and_self, Und.v, Und.any, Und.ptr, Und.map, Nat.reduceLT, Nat.zero_lt_succ, Und.tys, Und.tyAgg, Und.oslTys, Und.oslTys1, Und.clo0, Und.ty, Und.tys, UndL]
              · simp only [UndL, UndOs, Ob.Und, and_true, true_and, and_self, Und.v, Und.any, Und.ptr, Und.map, Nat.reduceLT, Nat.zero_lt_succ, Und.tys, Und.tyAgg, Und.oslTys, Und.oslTys1, Und.clo0, Und.ty, Und.tys, UndL]
          · skip
            have hend : s = T.ps.length ∨ s = U.ps.length := .inr (by have := hs.2.1; simp at hb32; omega)
            refine AWp_exit ?_
            simp only [thenQ, blockQ, noGotoQ, bA, Nat.reduceEqDiff, ↓reduceIte]
            try simp only [maskL, setsL, putsO, putO, bA, Nat.reduceEqDiff, ↓reduceIte]
            refine ⟨Ty.standL_none fun i p q hp hq => hs.2.2 i p q (by have h8 := (List.getElem?_eq_some_iff.1 hp).1; have h7 := (List.getElem?_eq_some_iff.1 hq).1; omega) hp hq, ?_⟩
            exact Weak.mk (by simp only [LeL, Le.refl, Le.any, and_self]) (fun _ _ h => h) rfl rfl
        · simp only [List.set_cons_zero, List.set_cons_succ]
          have hend : s = T.ps.length ∨ s = U.ps.length := .inl (by have := hs.1; simp at hc26; omega)
          refine aops_chunk 3 fun C26 hC26 => ?_
          simp only [bL, ↓aops, ↓aop, ↓aWant, ↓aVal, bS, bA, AV.flat, AV.cl, AV.one, Value.oneCell', thenQ, blockQ, noGotoQ, ↓reduceIte, Nat.reduceEqDiff, reduceCtorEq, undef, aField, fo32_2, Nat.reduceAdd, aLoad, ti22, getO, pack, Nat.reduceLeDiff, tyX]
          refine hC26 _ ?_
          try clear hC26 C26
          simp only [bL]
          simp only [↓aops, ↓aop, ↓aWant, ↓aVal, bS, bA, AV.flat, AV.cl, AV.one, Value.oneCell', thenQ, blockQ, noGotoQ, ↓reduceIte, Nat.reduceEqDiff, reduceCtorEq, bL, undef, aLen, ln22, List.length_map, aBin, aBool, tyX]
          refine hK11 _ ?_
          try clear hK11 K11
          refine AWp_cond (b := false) (by first | exact rfl | exact congrArg (fun b => AV.v (.bool b)) hb32) (fun h => (by cases h)) (fun _ => ?_)
          refine AWp_exit ?_
          simp only [thenQ, blockQ, noGotoQ, bA, Nat.reduceEqDiff, ↓reduceIte]
          try simp only [maskL, setsL, putsO, putO, bA, Nat.reduceEqDiff, ↓reduceIte]
          refine ⟨Ty.standL_none fun i p q hp hq => hs.2.2 i p q (by have h8 := (List.getElem?_eq_some_iff.1 hp).1; have h7 := (List.getElem?_eq_some_iff.1 hq).1; omega) hp hq, ?_⟩
          exact Weak.mk (by simp only [LeL, Le.refl, Le.any, and_self]) (fun _ _ h => h) rfl rfl
      simp only [maskL, setsL, putsO, putO, bA, Nat.reduceEqDiff, ↓reduceIte]
      refine AWp_seqK fun K27 hK27 => ?_
      refine AWp_region ?_
      simp only [↓aops, ↓aop, ↓aWant, ↓aVal, bS, bA, AV.flat, AV.cl, AV.one, Value.oneCell', thenQ, blockQ, noGotoQ, ↓reduceIte, Nat.reduceEqDiff, reduceCtorEq, aBuild, zc32, pc32, aFill, splice, bL, Nat.reduceAdd, Nat.reduceLeDiff, aStore, ti32, getO, putO, tyX]
      refine hK27 _ ?_
      try clear hK27 K27
      refine AWp_ret ?_
      try simp only [thenQ, blockQ, noGotoQ, retQ, aRes, tupOf, bS, bA, aLoad, getO, pack, bL, Nat.reduceAdd, Nat.reduceLeDiff, Nat.reduceEqDiff, ↓reduceIte, ti32, tyX]
      first | (rw [Ty.stand_eq v T U, if_pos hyes]; exact Le.tup ⟨.agg (by simp only [Option.getD_some, Ty.cells_eq U]; exact LeL.refl _), .refl _, trivial⟩) | (obtain ⟨y, hy⟩ := Option.isSome_iff_exists.1 (by exact hb50); have h9 := Ty.standL_some hp hq hy hs.2.2; rw [Ty.stand_eq v T U, if_neg hno, h9, hy]; exact Le.refl _) | (rw [Ty.stand_eq v T U, if_neg hno, hE]; exact Le.tup ⟨.agg zTy_le, .refl _, trivial⟩)
  · simp only [List.set_cons_zero, List.set_cons_succ]
    have hno : ¬ (T.k = 1 ∧ T.n = v) := fun h9 => by simp [h9.1] at hc14
    refine aops_chunk 3 fun C28 hC28 => ?_
    simp only [bL, ↓aops, ↓aop, ↓aWant, ↓aVal, bS, bA, AV.flat, AV.cl, AV.one, Value.oneCell', thenQ, blockQ, noGotoQ, ↓reduceIte, Nat.reduceEqDiff, reduceCtorEq, undef, aField, fo32_1, Nat.reduceAdd, aLoad, ti3, getO, pack, Nat.reduceLeDiff, tyX]
    refine hC28 _ ?_
    try clear hC28 C28
    simp only [bL]
    simp only [↓aops, ↓aop, ↓aWant, ↓aVal, bS, bA, AV.flat, AV.cl, AV.one, Value.oneCell', thenQ, blockQ, noGotoQ, ↓reduceIte, Nat.reduceEqDiff, reduceCtorEq, bL, undef, aBin, aBool, tyX]
    refine hK4 _ ?_
    try clear hK4 K4
    refine AWp_cond (b := false) (by first | exact rfl | exact congrArg (fun b => AV.v (.bool b)) hb19) (fun h => (by cases h)) (fun _ => ?_)
    refine AWp_skip ?_
    try simp only [thenQ, blockQ, noGotoQ]
    refine hK3 _ ?_
    try clear hK3 K3
    refine AWp_joinC [false, false, false, false, false, false, true, false, false, false, false, false, false, false, false, false, false, false, false, false, false, false, false, false, false, false, false, false, false, false, false, false, false, false, false, false, false, false, false, false, false, false, false, false, false, false, false, false, false, false, false, false, false] ([]) ([]) (Ty.standL v T.ps U.ps = none) ?_ (fun hE => ?_)
    · skip
      refine AWp_seqK fun K29 hK29 => ?_
      refine AWp_region ?_
      simp only [↓aops, ↓aop, ↓aWant, ↓aVal, bS, bA, AV.flat, AV.cl, AV.one, Value.oneCell', thenQ, blockQ, noGotoQ, ↓reduceIte, Nat.reduceEqDiff, reduceCtorEq, tyX]
      refine hK29 _ ?_
      try clear hK29 K29
      refine AWp_block ?_
      refine AWp_loopM (σ := Nat) [false, false, true, true, true, false, true, false, true, false, false, false, false, false, false, false, false, false, false, false, false, false, false, false, false, false, false, false, false, false, false, false, false, false, false, false, false, false, false, false, false, false, false, false, false, false, false, false, false, false, false, false, false] (fun s => s ≤ T.ps.length ∧ s ≤ U.ps.length ∧ ∀ (i : Nat) (p q : Ty), i < s → T.ps[i]? = some p → U.ps[i]? = some q → p.stand v q = none) (fun s => [(8, .v (.int .i64 (s : Int)))]) (fun s => []) (fun s => T.ps.length - s) 0 (⟨by omega, by omega, fun i p q hi => by omega⟩) ?_ (fun s hs => ?_)
      · skip
        simp only [maskL, setsL, putsO, putO, bA, Nat.reduceEqDiff, ↓reduceIte]
        exact Weak.mk (by simp only [LeL, Le.refl, Le.any, Le.slNil, and_self, Int.natCast_add, Int.cast_ofNat_Int, Int.natCast_one]) (fun _ _ h => h) rfl rfl
      simp only [maskL, setsL, putsO, putO, bA, Nat.reduceEqDiff, ↓reduceIte]
      refine AWp_seqK fun K30 hK30 => ?_
      refine AWp_seqK fun K31 hK31 => ?_
      refine AWp_region ?_
      refine aops_chunk 3 fun C32 hC32 => ?_
      simp only [bL, ↓aops, ↓aop, ↓aWant, ↓aVal, bS, bA, AV.flat, AV.cl, AV.one, Value.oneCell', thenQ, blockQ, noGotoQ, ↓reduceIte, Nat.reduceEqDiff, reduceCtorEq, aField, fo32_2, Nat.reduceAdd, aLoad, ti22, getO, pack, Nat.reduceLeDiff, tyX]
      refine hC32 _ ?_
      try clear hC32 C32
      simp only [bL]
      refine aops_chunk 3 fun C33 hC33 => ?_
      simp only [bL, ↓aops, ↓aop, ↓aWant, ↓aVal, bS, bA, AV.flat, AV.cl, AV.one, Value.oneCell', thenQ, blockQ, noGotoQ, ↓reduceIte, Nat.reduceEqDiff, reduceCtorEq, aLen, ln22, List.length_map, aBin, tyX]
      refine hC33 _ ?_
      try clear hC33 C33
      simp only [bL]
      refine aops_case 26 rfl (fun hc26 => ?_) (fun hc26 => ?_)
      · simp only [List.set_cons_zero, List.set_cons_succ]
        have hk : s < T.ps.length := by simpa using hc26
        obtain ⟨p, hp⟩ : ∃ p, T.ps[s]? = some p := ⟨_, List.getElem?_eq_getElem hk⟩
        have hw : IntKind.i64.wrap ((s : Int) + 1) = (s : Int) + 1 := wrap_in (by omega) (by simp only [maxLen] at hm1; omega)
        refine aops_chunk 3 fun C34 hC34 => ?_
        simp only [bL, ↓aops, ↓aop, ↓aWant, ↓aVal, bS, bA, AV.flat, AV.cl, AV.one, Value.oneCell', thenQ, blockQ, noGotoQ, ↓reduceIte, Nat.reduceEqDiff, reduceCtorEq, undef, aField, fo32_2, Nat.reduceAdd, aLoad, ti22, getO, pack, Nat.reduceLeDiff, tyX]
        refine hC34 _ ?_
        try clear hC34 C34
        simp only [bL]
        simp only [↓aops, ↓aop, ↓aWant, ↓aVal, bS, bA, AV.flat, AV.cl, AV.one, Value.oneCell', thenQ, blockQ, noGotoQ, ↓reduceIte, Nat.reduceEqDiff, reduceCtorEq, bL, undef, aLen, ln22, List.length_map, aBin, aBool, tyX]
        refine hK31 _ ?_
        try clear hK31 K31
        refine AWp_cond rfl (fun hb32 => ?_) (fun hb32 => ?_)
        · skip
          have hk2 : s < U.ps.length := by simpa using hb32
          obtain ⟨q, hq⟩ : ∃ q, U.ps[s]? = some q := ⟨_, List.getElem?_eq_getElem hk2⟩
          refine AWp_skip ?_
          try simp only [thenQ, blockQ, noGotoQ]
          refine hK30 _ ?_
          try clear hK30 K30
          refine AWp_seqK fun K35 hK35 => ?_
          refine AWp_block ?_
          refine AWp_seqK fun K36 hK36 => ?_
          refine AWp_drawKF 16 [14] mixed (by kernel_rfl) (fun _ _ h => h) fun K37 hK37 => ?_
          simp only [bL]
          refine dRun_chunk 3 fun C38 hC38 => ?_
          simp only [bL, ↓dRun, ↓dOp, ↓aops, ↓aop, ↓aWant, ↓aVal, bS, bA, AV.flat, AV.cl, AV.one, Value.oneCell', thenQ, blockQ, noGotoQ, ↓reduceIte, Nat.reduceEqDiff, reduceCtorEq, aField, fo32_2, Nat.reduceAdd, aLoad, ti22, getO, pack, Nat.reduceLeDiff, tyX, hk, hk2, getD_map_cells hp, getD_map_cells hq, Int.natCast_add, Int.natCast_one, hw]
          refine hC38 _ ?_
          try clear hC38 C38
          simp only [bL]
          refine dRun_chunk 3 fun C39 hC39 => ?_
          simp only [bL, ↓dRun, ↓dOp, ↓aops, ↓aop, ↓aWant, ↓aVal, bS, bA, AV.flat, AV.cl, AV.one, Value.oneCell', thenQ, blockQ, noGotoQ, ↓reduceIte, Nat.reduceEqDiff, reduceCtorEq, aIndexA, es22, Int.natCast_nonneg, Int.ofNat_lt, Int.toNat_natCast, List.length_map, Int.le_refl, Int.toNat_zero, Int.toNat_one, Int.reduceLE, aLoad, ti32, getO, pack, Nat.reduceAdd, Nat.reduceLeDiff, aField, fo32_2, tyX, hk, hk2, getD_map_cells hp, getD_map_cells hq, Int.natCast_add, Int.natCast_one, hw]
          refine hC39 _ ?_
          try clear hC39 C39
          simp only [bL]
          refine dRun_chunk 3 fun C40 hC40 => ?_
          simp only [bL, ↓dRun, ↓dOp, ↓aops, ↓aop, ↓aWant, ↓aVal, bS, bA, AV.flat, AV.cl, AV.one, Value.oneCell', thenQ, blockQ, noGotoQ, ↓reduceIte, Nat.reduceEqDiff, reduceCtorEq, aLoad, ti22, getO, pack, Nat.reduceAdd, Nat.reduceLeDiff, aIndexA, es22, Int.natCast_nonneg, Int.ofNat_lt, Int.toNat_natCast, List.length_map, Int.le_refl, Int.toNat_zero, Int.toNat_one, Int.reduceLE, tyX, hk, hk2, getD_map_cells hp, getD_map_cells hq, Int.natCast_add, Int.natCast_one, hw]
          refine hC40 _ ?_
          try clear hC40 C40
          simp only [bL]
          refine dRun_chunk 2 fun C41 hC41 => ?_
          simp only [bL, ↓dRun, ↓dOp, ↓aops, ↓aop, ↓aWant, ↓aVal, bS, bA, AV.flat, AV.cl, AV.one, Value.oneCell', thenQ, blockQ, noGotoQ, ↓reduceIte, Nat.reduceEqDiff, reduceCtorEq, aLoad, ti32, getO, pack, Nat.reduceAdd, Nat.reduceLeDiff, tyX, hk, hk2, getD_map_cells hp, getD_map_cells hq, Int.natCast_add, Int.natCast_one, hw]
          refine hC41 _ ?_
          try clear hC41 C41
          simp only [bL]
          refine dRun_chunk 1 fun C42 hC42 => ?_
          simp only [bL, ↓dRun, ↓dOp, ↓aops, ↓aop, ↓aWant, ↓aVal, bS, bA, AV.flat, AV.cl, AV.one, Value.oneCell', thenQ, blockQ, noGotoQ, ↓reduceIte, Nat.reduceEqDiff, reduceCtorEq, aCallV, tyX, hk, hk2, getD_map_cells hp, getD_map_cells hq, Int.natCast_add, Int.natCast_one, hw]
          refine ⟨_, ih p (List.mem_of_getElem? hp) q v, ?_⟩
          try simp only [bS, bA, thenQ, blockQ, noGotoQ]
          refine hC42 _ ?_
          try clear hC42 C42
          simp only [bL]
          refine dRun_chunk 3 fun C43 hC43 => ?_
          simp only [bL, ↓dRun, ↓dOp, ↓aops, ↓aop, ↓aWant, ↓aVal, bS, bA, AV.flat, AV.cl, AV.one, Value.oneCell', thenQ, blockQ, noGotoQ, ↓reduceIte, Nat.reduceEqDiff, reduceCtorEq, aExtract, Nat.reduceAdd, Nat.reduceLT, Nat.zero_lt_succ, tyX, hk, hk2, getD_map_cells hp, getD_map_cells hq, Int.natCast_add, Int.natCast_one, hw]
          refine hC43 _ ?_
          try clear hC43 C43
          simp only [bL]
          simp only [↓dRun, ↓dOp, bL, ↓aops, ↓aop, ↓aWant, ↓aVal, bS, bA, AV.flat, AV.cl, AV.one, Value.oneCell', thenQ, blockQ, noGotoQ, ↓reduceIte, Nat.reduceEqDiff, reduceCtorEq, zc32, tyX, hk, hk2, getD_map_cells hp, getD_map_cells hq, Int.natCast_add, Int.natCast_one, hw]
          refine hK37 _ ?_
          try clear hK37 K37
          simp only [bL]
          simp only [↓aops, ↓aop, ↓aWant, ↓aVal, bS, bA, AV.flat, AV.cl, AV.one, Value.oneCell', thenQ, blockQ, noGotoQ, ↓reduceIte, Nat.reduceEqDiff, reduceCtorEq, aStore, ti32, getO, putO, splice, bL, Nat.reduceAdd, Nat.reduceLeDiff, tyX, hk, hk2, getD_map_cells hp, getD_map_cells hq, Int.natCast_add, Int.natCast_one, hw]
          refine hK36 _ ?_
          try clear hK36 K36
          refine AWp_seqK fun K44 hK44 => ?_
          refine AWp_region ?_
          simp only [↓aops, ↓aop, ↓aWant, ↓aVal, bS, bA, AV.flat, AV.cl, AV.one, Value.oneCell', thenQ, blockQ, noGotoQ, ↓reduceIte, Nat.reduceEqDiff, reduceCtorEq, tyX, hk, hk2, getD_map_cells hp, getD_map_cells hq, Int.natCast_add, Int.natCast_one, hw]
          refine hK44 _ ?_
          try clear hK44 K44
          refine AWp_cond rfl (fun hb50 => ?_) (fun hb50 => ?_)
          · skip
            refine AWp_seqK fun K45 hK45 => ?_
            refine AWp_region ?_
            simp only [↓aops, ↓aop, ↓aWant, ↓aVal, bS, bA, AV.flat, AV.cl, AV.one, Value.oneCell', thenQ, blockQ, noGotoQ, ↓reduceIte, Nat.reduceEqDiff, reduceCtorEq, aLoad, ti32, getO, pack, bL, Nat.reduceAdd, Nat.reduceLeDiff, aStore, putO, splice, tyX, hk, hk2, getD_map_cells hp, getD_map_cells hq, Int.natCast_add, Int.natCast_one, hw]
            refine hK45 _ ?_
            try clear hK45 K45
            refine AWp_ret ?_
            try simp only [thenQ, blockQ, noGotoQ, retQ, aRes, tupOf, bS, bA, aLoad, getO, pack, bL, Nat.reduceAdd, Nat.reduceLeDiff, Nat.reduceEqDiff, ↓reduceIte, ti32, tyX, hk, hk2, getD_map_cells hp, getD_map_cells hq, Int.natCast_add, Int.natCast_one, hw]
            first | (rw [Ty.stand_eq v T U, if_pos hyes]; exact Le.tup ⟨.agg (by simp only [Option.getD_some, Ty.cells_eq U]; exact LeL.refl _), .refl _, trivial⟩) | (obtain ⟨y, hy⟩ := Option.isSome_iff_exists.1 (by exact hb50); have h9 := Ty.standL_some hp hq hy hs.2.2; rw [Ty.stand_eq v T U, if_neg hno, h9, hy]; exact Le.refl _) | (rw [Ty.stand_eq v T U, if_neg hno, hE]; exact Le.tup ⟨.agg zTy_le, .refl _, trivial⟩)
          · skip
            refine AWp_skip ?_
            try simp only [thenQ, blockQ, noGotoQ]
            refine hK35 _ ?_
            try clear hK35 K35
            refine AWp_region ?_
            simp only [↓aops, ↓aop, ↓aWant, ↓aVal, bS, bA, AV.flat, AV.cl, AV.one, Value.oneCell', thenQ, blockQ, noGotoQ, ↓reduceIte, Nat.reduceEqDiff, reduceCtorEq, aBin, tyX, hk, hk2, getD_map_cells hp, getD_map_cells hq, Int.natCast_add, Int.natCast_one, hw]
            refine ⟨(s + 1), ⟨by omega, by omega, fun i p' q' hi h1 h2 => (by rcases Nat.lt_or_ge i s with h3 | h3 <;> first | exact hs.2.2 i p' q' h3 h1 h2 | (obtain rfl : i = s := (by omega); rw [hp] at h1; rw [hq] at h2; cases h1; cases h2; cases hz : p.stand v q with | none => rfl | some y => rw [hz] at hb50; cases hb50))⟩, by omega, ?_⟩
            simp only [maskL, setsL, putsO, putO, bA, Nat.reduceEqDiff, ↓reduceIte, hk, hk2, getD_map_cells hp, getD_map_cells hq, Int.natCast_add, Int.natCast_one, hw]
            first | (refine Weak.drops 1 3 rfl rfl (by simp only; omega) (by simp only; omega) ?_ ?_ ?_) | (refine Weak.drops 0 3 rfl rfl (by simp only; omega) (by simp only; omega) ?_ ?_ ?_)
            · simp only [LeL, Le.refl, Le.any, and_self, Int.natCast_add, Int.cast_ofNat_Int, Int.natCast_one]
            · simp only [UndL, UndOs, Ob.Und, and_true, true_and, and_self, Und.v, Und.any, Und.ptr, Und.map, Nat.reduceLT, Nat.zero_lt_succ, Und.tys, Und.tyAgg, Und.oslTys, Und.oslTys1, Und.clo0, Und.ty, Und.tys, UndL]
            · simp only [UndL, UndOs, Ob.Und, and_true, true_and, and_self, Und.v, Und.any, Und.ptr, Und.map, Nat.reduceLT, Nat.zero_lt_succ, Und.tys, Und.tyAgg, Und.oslTys, Und.oslTys1, Und.clo0, Und.ty, Und.tys, UndL]
        · skip
          have hend : s = T.ps.length ∨ s = U.ps.length := .inr (by have := hs.2.1; simp at hb32; omega)
          refine AWp_exit ?_
          simp only [thenQ, blockQ, noGotoQ, bA, Nat.reduceEqDiff, ↓reduceIte]
          try simp only [maskL, setsL, putsO, putO, bA, Nat.reduceEqDiff, ↓reduceIte]
          refine ⟨Ty.standL_none fun i p q hp hq => hs.2.2 i p q (by have h8 := (List.getElem?_eq_some_iff.1 hp).1; have h7 := (List.getElem?_eq_some_iff.1 hq).1; omega) hp hq, ?_⟩
          exact Weak.mk (by simp only [LeL, Le.refl, Le.any, and_self]) (fun _ _ h => h) rfl rfl
      · simp only [List.set_cons_zero, List.set_cons_succ]
        have hend : s = T.ps.length ∨ s = U.ps.length := .inl (by have := hs.1; simp at hc26; omega)
        refine aops_chunk 3 fun C46 hC46 => ?_
        simp only [bL, ↓aops, ↓aop, ↓aWant, ↓aVal, bS, bA, AV.flat, AV.cl, AV.one, Value.oneCell', thenQ, blockQ, noGotoQ, ↓reduceIte, Nat.reduceEqDiff, reduceCtorEq, undef, aField, fo32_2, Nat.reduceAdd, aLoad, ti22, getO, pack, Nat.reduceLeDiff, tyX]
        refine hC46 _ ?_
        try clear hC46 C46
        simp only [bL]
        simp only [↓aops, ↓aop, ↓aWant, ↓aVal, bS, bA, AV.flat, AV.cl, AV.one, Value.oneCell', thenQ, blockQ, noGotoQ, ↓reduceIte, Nat.reduceEqDiff, reduceCtorEq, bL, undef, aLen, ln22, List.length_map, aBin, aBool, tyX]
        refine hK31 _ ?_
        try clear hK31 K31
        refine AWp_cond (b := false) (by first | exact rfl | exact congrArg (fun b => AV.v (.bool b)) hb32) (fun h => (by cases h)) (fun _ => ?_)
        refine AWp_exit ?_
        simp only [thenQ, blockQ, noGotoQ, bA, Nat.reduceEqDiff, ↓reduceIte]
        try simp only [maskL, setsL, putsO, putO, bA, Nat.reduceEqDiff, ↓reduceIte]
        refine ⟨Ty.standL_none fun i p q hp hq => hs.2.2 i p q (by have h8 := (List.getElem?_eq_some_iff.1 hp).1; have h7 := (List.getElem?_eq_some_iff.1 hq).1; omega) hp hq, ?_⟩
        exact Weak.mk (by simp only [LeL, Le.refl, Le.any, and_self]) (fun _ _ h => h) rfl rfl
    simp only [maskL, setsL, putsO, putO, bA, Nat.reduceEqDiff, ↓reduceIte]
    refine AWp_seqK fun K47 hK47 => ?_
    refine AWp_region ?_
    simp only [↓aops, ↓aop, ↓aWant, ↓aVal, bS, bA, AV.flat, AV.cl, AV.one, Value.oneCell', thenQ, blockQ, noGotoQ, ↓reduceIte, Nat.reduceEqDiff, reduceCtorEq, aBuild, zc32, pc32, aFill, splice, bL, Nat.reduceAdd, Nat.reduceLeDiff, aStore, ti32, getO, putO, tyX]
    refine hK47 _ ?_
    try clear hK47 K47
    refine AWp_ret ?_
    try simp only [thenQ, blockQ, noGotoQ, retQ, aRes, tupOf, bS, bA, aLoad, getO, pack, bL, Nat.reduceAdd, Nat.reduceLeDiff, Nat.reduceEqDiff, ↓reduceIte, ti32, tyX]
    first | (rw [Ty.stand_eq v T U, if_pos hyes]; exact Le.tup ⟨.agg (by simp only [Option.getD_some, Ty.cells_eq U]; exact LeL.refl _), .refl _, trivial⟩) | (obtain ⟨y, hy⟩ := Option.isSome_iff_exists.1 (by exact hb50); have h9 := Ty.standL_some hp hq hy hs.2.2; rw [Ty.stand_eq v T U, if_neg hno, h9, hy]; exact Le.refl _) | (rw [Ty.stand_eq v T U, if_neg hno, hE]; exact Le.tup ⟨.agg zTy_le, .refl _, trivial⟩)
theorem RefMatch_pure (T U : Ty) (hT : T.cnt ≤ 1099511627776) : APure Try.prog 31 [.agg T.cells, .agg U.cells] (.tup [.sl 4 ((wantB T U).map Bd.cells), .v (.bool ((T.sub (wantB T U)).same U))]) := by
  refine APure.mkL (.cons T.dataAgg (.cons U.dataAgg .nil)) ((.tup (.cons (Bd.dataSl _) (.cons (.v _) .nil)))) ?_
  refine ACalls_intro Try.func31 (by kernel_rfl) rfl (by rw [Try.ntmps31]; simp) (fun hm => ?_)
  simp only [Try.ntmps31, Try.results31, List.length_cons, List.length_nil, Nat.reduceAdd, Nat.reduceSub, List.replicate_succ, List.replicate_zero, List.cons_append, List.nil_append]
  have hvl := T.rvars_len []
  simp only [List.length_nil] at hvl
  refine AWp_seqK fun K1 hK1 => ?_
  refine AWp_region ?_
  refine aops_chunk 3 fun C2 hC2 => ?_
  simp only [bL, ↓aops, ↓aop, ↓aWant, ↓aVal, bS, bA, AV.flat, AV.cl, AV.one, Value.oneCell', thenQ, blockQ, noGotoQ, ↓reduceIte, Nat.reduceEqDiff, reduceCtorEq, tyX, Bd.take1, Bd.drop1, Bd.cells_len, Bd.one]
  refine hC2 _ ?_
  try clear hC2 C2
  simp only [bL]
  simp only [↓aops, ↓aop, ↓aWant, ↓aVal, bS, bA, AV.flat, AV.cl, AV.one, Value.oneCell', thenQ, blockQ, noGotoQ, ↓reduceIte, Nat.reduceEqDiff, reduceCtorEq, tyX, Bd.take1, Bd.drop1, Bd.cells_len, Bd.one]
  refine hK1 _ ?_
  try clear hK1 K1
  refine AWp_seqK fun K3 hK3 => ?_
  refine AWp_region ?_
  simp only [↓aops, ↓aop, ↓aWant, ↓aVal, bS, bA, AV.flat, AV.cl, AV.one, Value.oneCell', thenQ, blockQ, noGotoQ, ↓reduceIte, Nat.reduceEqDiff, reduceCtorEq, tyX, Bd.take1, Bd.drop1, Bd.cells_len, Bd.one]
  refine hK3 _ ?_
  try clear hK3 K3
  refine AWp_seqK fun K4 hK4 => ?_
  refine AWp_region ?_
  refine aops_chunk 1 fun C5 hC5 => ?_
  simp only [bL, ↓aops, ↓aop, ↓aWant, ↓aVal, bS, bA, AV.flat, AV.cl, AV.one, Value.oneCell', thenQ, blockQ, noGotoQ, ↓reduceIte, Nat.reduceEqDiff, reduceCtorEq, aLoad, ti32, getO, pack, Nat.reduceAdd, Nat.reduceLeDiff, tyX, Bd.take1, Bd.drop1, Bd.cells_len, Bd.one]
  refine hC5 _ ?_
  try clear hC5 C5
  simp only [bL]
  refine aops_chunk 1 fun C6 hC6 => ?_
  simp only [bL, ↓aops, ↓aop, ↓aWant, ↓aVal, bS, bA, AV.flat, AV.cl, AV.one, Value.oneCell', thenQ, blockQ, noGotoQ, ↓reduceIte, Nat.reduceEqDiff, reduceCtorEq, aCallV, tyX, Bd.take1, Bd.drop1, Bd.cells_len, Bd.one]
  refine APure.call (by have h9 := RVars_pure T [] (by simpa using hT); exact h9.le ⟨.refl _, Le.slNil 1, trivial⟩ (.cons T.dataAgg (.cons (.v _) .nil))) ?_
  try simp only [bS, bA, thenQ, blockQ, noGotoQ]
  refine hC6 _ ?_
  try clear hC6 C6
  simp only [bL]
  simp only [↓aops, ↓aop, ↓aWant, ↓aVal, bS, bA, AV.flat, AV.cl, AV.one, Value.oneCell', thenQ, blockQ, noGotoQ, ↓reduceIte, Nat.reduceEqDiff, reduceCtorEq, tyX, Bd.take1, Bd.drop1, Bd.cells_len, Bd.one]
  refine hK4 _ ?_
  try clear hK4 K4
  refine AWp_joinZ [false, false, true, true, false, false, true, false, false, false, false, false, false, false, false, false, false, false, false, false, false, false, false, false, false, false, false, false, false, false, false, false, false, false, false, false, false, false, false, false, false, false, false, false] ([(6, .sl 4 ((wantB T U).map Bd.cells))]) [(2, .tok 103 4 (T.rvars []).length), (1, .cells 32 U.cells), (0, .cells 32 T.cells)] 3 (True) ?_ (fun hC => ?_)
  · skip
    refine AWp_seqK fun K7 hK7 => ?_
    refine AWp_region ?_
    simp only [↓aops, ↓aop, ↓aWant, ↓aVal, bS, bA, AV.flat, AV.cl, AV.one, Value.oneCell', thenQ, blockQ, noGotoQ, ↓reduceIte, Nat.reduceEqDiff, reduceCtorEq, tyX, Bd.take1, Bd.drop1, Bd.cells_len, Bd.one]
    refine hK7 _ ?_
    try clear hK7 K7
    refine AWp_block ?_
    refine AWp_weak (Weak.tokSlot 6 103 4 rfl) ?_
    simp only [List.set_cons_zero, List.set_cons_succ]
    refine AWp_loopM (σ := Nat) [false, false, true, true, false, false, true, true, true, false, false, false, false, false, false, false, false, false, false, false, false, false, false, false, false, false, false, false, false, false, false, false, false, false, false, false, false, false, false, false, false, false, false, false] (fun s => s ≤ (T.rvars []).length) (fun s => [(6, .osl 2 4 ((((T.rvars []).take s).map (wB T U)).map Bd.cells)), (8, .v (.int .i64 (s : Int)))]) (fun s => [(2, .tok 103 4 s)]) (fun s => (T.rvars []).length - s) 0 (by omega) ?_ (fun s hs => ?_)
    · skip
      simp only [maskL, setsL, putsO, putO, bA, Nat.reduceEqDiff, ↓reduceIte, bL]
      exact Weak.mk (by simp only [LeL, Le.refl, Le.any, Le.slNil, and_self, Int.natCast_add, Int.cast_ofNat_Int, Int.natCast_one]) (fun _ _ h => h) rfl rfl
    simp only [maskL, setsL, putsO, putO, bA, Nat.reduceEqDiff, ↓reduceIte]
    refine AWp_seqK fun K8 hK8 => ?_
    refine AWp_seqK fun K9 hK9 => ?_
    refine AWp_region ?_
    refine aops_chunk 3 fun C10 hC10 => ?_
    simp only [bL, ↓aops, ↓aop, ↓aWant, ↓aVal, bS, bA, AV.flat, AV.cl, AV.one, Value.oneCell', thenQ, blockQ, noGotoQ, ↓reduceIte, Nat.reduceEqDiff, reduceCtorEq, aLen, ln28, List.length_map, tyX, Bd.take1, Bd.drop1, Bd.cells_len, Bd.one]
    refine hC10 _ ?_
    try clear hC10 C10
    simp only [bL]
    simp only [↓aops, ↓aop, ↓aWant, ↓aVal, bS, bA, AV.flat, AV.cl, AV.one, Value.oneCell', thenQ, blockQ, noGotoQ, ↓reduceIte, Nat.reduceEqDiff, reduceCtorEq, aBin, tyX, Bd.take1, Bd.drop1, Bd.cells_len, Bd.one]
    refine hK9 _ ?_
    try clear hK9 K9
    refine AWp_cond rfl (fun hb16 => ?_) (fun hb16 => ?_)
    · skip
      have hk : s < (T.rvars []).length := by simpa using hb16
      obtain ⟨v, hv⟩ : ∃ v, (T.rvars [])[s]? = some v := ⟨_, List.getElem?_eq_getElem hk⟩
      have hw : IntKind.i64.wrap ((s : Int) + 1) = (s : Int) + 1 := wrap_in (by omega) (by omega)
      have hln : ((((T.rvars []).take s).map (wB T U)).map Bd.cells).length = s := by simp; omega
      have hb1 : (s + 1) * 48 ≤ 140737488355328 := by omega
      have hb2 : s + 1 ≤ maxLen := by simp only [maxLen]; omega
      refine AWp_skip ?_
      try simp only [thenQ, blockQ, noGotoQ]
      refine hK8 _ ?_
      try clear hK8 K8
      refine AWp_seqK fun K11 hK11 => ?_
      refine AWp_block ?_
      refine AWp_seqK fun K12 hK12 => ?_
      refine AWp_drawKF 11 [9] mixed (by kernel_rfl) (fun _ _ h => h) fun K13 hK13 => ?_
      simp only [bL]
      refine dRun_chunk 3 fun C14 hC14 => ?_
      simp only [bL, ↓dRun, ↓dOp, ↓aops, ↓aop, ↓aWant, ↓aVal, bS, bA, AV.flat, AV.cl, AV.one, Value.oneCell', thenQ, blockQ, noGotoQ, ↓reduceIte, Nat.reduceEqDiff, reduceCtorEq, aLoad, ti32, getO, pack, Nat.reduceAdd, Nat.reduceLeDiff, tyX, Bd.take1, Bd.drop1, Bd.cells_len, Bd.one, hk, getD_map_cells hv, intC, Int.natCast_add, Int.natCast_one, hw, hln, hb1, hb2, List.map_append, take_map_step (wB T U) hv, wB_cells]
      refine hC14 _ ?_
      try clear hC14 C14
      simp only [bL]
      refine dRun_chunk 3 fun C15 hC15 => ?_
      simp only [bL, ↓dRun, ↓dOp, ↓aops, ↓aop, ↓aWant, ↓aVal, bS, bA, AV.flat, AV.cl, AV.one, Value.oneCell', thenQ, blockQ, noGotoQ, ↓reduceIte, Nat.reduceEqDiff, reduceCtorEq, aIndexA, es28, Int.natCast_nonneg, Int.ofNat_lt, Int.toNat_natCast, List.length_map, Int.le_refl, Int.toNat_zero, Int.toNat_one, Int.reduceLE, aLoad, ti3, getO, pack, Nat.reduceAdd, Nat.reduceLeDiff, tyX, Bd.take1, Bd.drop1, Bd.cells_len, Bd.one, hk, getD_map_cells hv, intC, Int.natCast_add, Int.natCast_one, hw, hln, hb1, hb2, List.map_append, take_map_step (wB T U) hv, wB_cells]
      refine hC15 _ ?_
      try clear hC15 C15
      simp only [bL]
      refine dRun_chunk 1 fun C16 hC16 => ?_
      simp only [bL, ↓dRun, ↓dOp, ↓aops, ↓aop, ↓aWant, ↓aVal, bS, bA, AV.flat, AV.cl, AV.one, Value.oneCell', thenQ, blockQ, noGotoQ, ↓reduceIte, Nat.reduceEqDiff, reduceCtorEq, aCallV, tyX, Bd.take1, Bd.drop1, Bd.cells_len, Bd.one, hk, getD_map_cells hv, intC, Int.natCast_add, Int.natCast_one, hw, hln, hb1, hb2, List.map_append, take_map_step (wB T U) hv, wB_cells, Nat.reduceAdd, Nat.reduceLeDiff]
      refine ⟨_, At_pure T U v, ?_⟩
      try simp only [bS, bA, thenQ, blockQ, noGotoQ]
      refine hC16 _ ?_
      try clear hC16 C16
      simp only [bL]
      refine dRun_chunk 3 fun C17 hC17 => ?_
      simp only [bL, ↓dRun, ↓dOp, ↓aops, ↓aop, ↓aWant, ↓aVal, bS, bA, AV.flat, AV.cl, AV.one, Value.oneCell', thenQ, blockQ, noGotoQ, ↓reduceIte, Nat.reduceEqDiff, reduceCtorEq, aExtract, Nat.reduceAdd, Nat.reduceLT, Nat.zero_lt_succ, tyX, Bd.take1, Bd.drop1, Bd.cells_len, Bd.one, hk, getD_map_cells hv, intC, Int.natCast_add, Int.natCast_one, hw, hln, hb1, hb2, List.map_append, take_map_step (wB T U) hv, wB_cells, Nat.reduceLeDiff]
      refine hC17 _ ?_
      try clear hC17 C17
      simp only [bL]
      simp only [↓dRun, ↓dOp, bL, ↓aops, ↓aop, ↓aWant, ↓aVal, bS, bA, AV.flat, AV.cl, AV.one, Value.oneCell', thenQ, blockQ, noGotoQ, ↓reduceIte, Nat.reduceEqDiff, reduceCtorEq, zc32, tyX, Bd.take1, Bd.drop1, Bd.cells_len, Bd.one, hk, getD_map_cells hv, intC, Int.natCast_add, Int.natCast_one, hw, hln, hb1, hb2, List.map_append, take_map_step (wB T U) hv, wB_cells, Nat.reduceAdd, Nat.reduceLeDiff]
      refine hK13 _ ?_
      try clear hK13 K13
      simp only [bL]
      simp only [↓aops, ↓aop, ↓aWant, ↓aVal, bS, bA, AV.flat, AV.cl, AV.one, Value.oneCell', thenQ, blockQ, noGotoQ, ↓reduceIte, Nat.reduceEqDiff, reduceCtorEq, aStore, ti32, getO, putO, splice, bL, Nat.reduceAdd, Nat.reduceLeDiff, tyX, Bd.take1, Bd.drop1, Bd.cells_len, Bd.one, hk, getD_map_cells hv, intC, Int.natCast_add, Int.natCast_one, hw, hln, hb1, hb2, List.map_append, take_map_step (wB T U) hv, wB_cells]
      refine hK12 _ ?_
      try clear hK12 K12
      refine AWp_drawK 8 mixed (by kernel_rfl) fun K18 hK18 => ?_
      simp only [bL]
      refine dRun_chunk 3 fun C19 hC19 => ?_
      simp only [bL, ↓dRun, ↓dOp, ↓aops, ↓aop, ↓aWant, ↓aVal, bS, bA, AV.flat, AV.cl, AV.one, Value.oneCell', thenQ, blockQ, noGotoQ, ↓reduceIte, Nat.reduceEqDiff, reduceCtorEq, tyX, Bd.take1, Bd.drop1, Bd.cells_len, Bd.one, hk, getD_map_cells hv, intC, Int.natCast_add, Int.natCast_one, hw, hln, hb1, hb2, List.map_append, take_map_step (wB T U) hv, wB_cells, Nat.reduceAdd, Nat.reduceLeDiff]
      refine hC19 _ ?_
      try clear hC19 C19
      simp only [bL]
      refine dRun_chunk 3 fun C20 hC20 => ?_
      simp only [bL, ↓dRun, ↓dOp, ↓aops, ↓aop, ↓aWant, ↓aVal, bS, bA, AV.flat, AV.cl, AV.one, Value.oneCell', thenQ, blockQ, noGotoQ, ↓reduceIte, Nat.reduceEqDiff, reduceCtorEq, aIndexA, es28, Int.natCast_nonneg, Int.ofNat_lt, Int.toNat_natCast, List.length_map, Int.le_refl, Int.toNat_zero, Int.toNat_one, Int.reduceLE, aLoad, ti3, getO, pack, Nat.reduceAdd, Nat.reduceLeDiff, ti32, tyX, Bd.take1, Bd.drop1, Bd.cells_len, Bd.one, hk, getD_map_cells hv, intC, Int.natCast_add, Int.natCast_one, hw, hln, hb1, hb2, List.map_append, take_map_step (wB T U) hv, wB_cells]
      refine hC20 _ ?_
      try clear hC20 C20
      simp only [bL]
      simp only [↓dRun, ↓dOp, bL, ↓aops, ↓aop, ↓aWant, ↓aVal, bS, bA, AV.flat, AV.cl, AV.one, Value.oneCell', thenQ, blockQ, noGotoQ, ↓reduceIte, Nat.reduceEqDiff, reduceCtorEq, aBuild, zc103, pc103, aFill, splice, Nat.reduceAdd, Nat.reduceLeDiff, ↓bs1_1, ↓bs1_2, ↓bs1_3, ↓bs1_4, ↓bs1_5, ↓bs1_6, ↓bs1_7, ↓bs1_8, ↓bs1_9, ↓bs1_10, ↓bs1_11, ↓bs1_12, aBuildSl, ei53, List.range_succ, List.range_zero, List.forall_mem_cons, List.not_mem_nil, false_imp_iff, implies_true, forall_eq, List.mem_singleton, tyX, Bd.take1, Bd.drop1, Bd.cells_len, Bd.one, hk, getD_map_cells hv, intC, Int.natCast_add, Int.natCast_one, hw, hln, hb1, hb2, List.map_append, take_map_step (wB T U) hv, wB_cells]
      refine hK18 _ ?_
      try clear hK18 K18
      simp only [bL]
      simp only [↓aops, ↓aop, ↓aWant, ↓aVal, bS, bA, AV.flat, AV.cl, AV.one, Value.oneCell', thenQ, blockQ, noGotoQ, ↓reduceIte, Nat.reduceEqDiff, reduceCtorEq, aAppend, ei53, slOf, List.length_map, getO, putO, bL, Nat.reduceAdd, tyX, Bd.take1, Bd.drop1, Bd.cells_len, Bd.one, hk, getD_map_cells hv, intC, Int.natCast_add, Int.natCast_one, hw, hln, hb1, hb2, List.map_append, take_map_step (wB T U) hv, wB_cells, Nat.reduceLeDiff]
      refine hK11 _ ?_
      try clear hK11 K11
      refine AWp_region ?_
      simp only [↓aops, ↓aop, ↓aWant, ↓aVal, bS, bA, AV.flat, AV.cl, AV.one, Value.oneCell', thenQ, blockQ, noGotoQ, ↓reduceIte, Nat.reduceEqDiff, reduceCtorEq, aBin, tyX, Bd.take1, Bd.drop1, Bd.cells_len, Bd.one, hk, getD_map_cells hv, intC, Int.natCast_add, Int.natCast_one, hw, hln, hb1, hb2, List.map_append, bL, take_map_step (wB T U) hv, wB_cells, Nat.reduceAdd, Nat.reduceLeDiff]
      refine ⟨(s + 1), (by omega), by omega, ?_⟩
      simp only [maskL, setsL, putsO, putO, bA, Nat.reduceEqDiff, ↓reduceIte, hk, getD_map_cells hv, intC, Int.natCast_add, Int.natCast_one, hw, hln, hb1, hb2, List.map_append, bL, take_map_step (wB T U) hv, wB_cells, Nat.reduceAdd, Nat.reduceLeDiff]
      first | (refine Weak.drops 1 3 rfl rfl (by simp only; omega) (by simp only; omega) ?_ ?_ ?_) | (refine Weak.drops 0 3 rfl rfl (by simp only; omega) (by simp only; omega) ?_ ?_ ?_)
      · simp only [LeL, Le.refl, Le.any, and_self, Int.natCast_add, Int.cast_ofNat_Int, Int.natCast_one]
      · simp only [UndL, UndOs, Ob.Und, and_true, true_and, and_self, Und.v, Und.any, Und.ptr, Und.map, Nat.reduceLT, Nat.zero_lt_succ, Und.tys, Und.tyAgg, Und.oslTys, Und.oslTys1, Und.clo0, Und.ty, Und.ty, Und.data, UndL, Und.oslB, Und.oslB1, Und.intsV]
      · simp only [UndL, UndOs, Ob.Und, and_true, true_and, and_self, Und.v, Und.any, Und.ptr, Und.map, Nat.reduceLT, Nat.zero_lt_succ, Und.tys, Und.tyAgg, Und.oslTys, Und.oslTys1, Und.clo0, Und.ty, Und.ty, Und.data, UndL, Und.oslB, Und.oslB1, Und.intsV]
    · skip
      have hk : s = (T.rvars []).length := by simp at hb16; omega
      refine AWp_exit ?_
      simp only [thenQ, blockQ, noGotoQ, bA, Nat.reduceEqDiff, ↓reduceIte]
      try simp only [maskL, setsL, putsO, putO, bA, Nat.reduceEqDiff, ↓reduceIte]
      first | refine ⟨trivial, ?_⟩ | skip
      subst hk
      rw [wantB_eq]
      exact Weak.mk (by simp only [LeL, Le.refl, Le.any, Le.oslL, and_self, List.take_length]) (fun _ _ h => h) rfl rfl
  simp only [maskL, setsL, putsO, putO, bA, Nat.reduceEqDiff, ↓reduceIte]
  refine AWp_seqK fun K21 hK21 => ?_
  refine AWp_drawK 6 mixed (by kernel_rfl) fun K22 hK22 => ?_
  simp only [bL]
  refine dRun_chunk 3 fun C23 hC23 => ?_
  simp only [bL, ↓dRun, ↓dOp, ↓aops, ↓aop, ↓aWant, ↓aVal, bS, bA, AV.flat, AV.cl, AV.one, Value.oneCell', thenQ, blockQ, noGotoQ, ↓reduceIte, Nat.reduceEqDiff, reduceCtorEq, aLoad, ti32, getO, pack, Nat.reduceAdd, Nat.reduceLeDiff, tyX, Bd.take1, Bd.drop1, Bd.cells_len, Bd.one]
  refine hC23 _ ?_
  try clear hC23 C23
  simp only [bL]
  refine dRun_chunk 1 fun C24 hC24 => ?_
  simp only [bL, ↓dRun, ↓dOp, ↓aops, ↓aop, ↓aWant, ↓aVal, bS, bA, AV.flat, AV.cl, AV.one, Value.oneCell', thenQ, blockQ, noGotoQ, ↓reduceIte, Nat.reduceEqDiff, reduceCtorEq, aCallV, tyX, Bd.take1, Bd.drop1, Bd.cells_len, Bd.one]
  refine ⟨_, Apply_pure T (wantB T U) hT, ?_⟩
  try simp only [bS, bA, thenQ, blockQ, noGotoQ]
  refine hC24 _ ?_
  try clear hC24 C24
  simp only [bL]
  refine dRun_chunk 1 fun C25 hC25 => ?_
  simp only [bL, ↓dRun, ↓dOp, ↓aops, ↓aop, ↓aWant, ↓aVal, bS, bA, AV.flat, AV.cl, AV.one, Value.oneCell', thenQ, blockQ, noGotoQ, ↓reduceIte, Nat.reduceEqDiff, reduceCtorEq, aLoad, ti32, getO, pack, Nat.reduceAdd, Nat.reduceLeDiff, tyX, Bd.take1, Bd.drop1, Bd.cells_len, Bd.one]
  refine hC25 _ ?_
  try clear hC25 C25
  simp only [bL]
  simp only [↓dRun, ↓dOp, bL, ↓aops, ↓aop, ↓aWant, ↓aVal, bS, bA, AV.flat, AV.cl, AV.one, Value.oneCell', thenQ, blockQ, noGotoQ, ↓reduceIte, Nat.reduceEqDiff, reduceCtorEq, aCallV, tyX, Bd.take1, Bd.drop1, Bd.cells_len, Bd.one]
  refine ⟨_, Same_pure (T.sub (wantB T U)) U, ?_⟩
  try simp only [bS, bA, thenQ, blockQ, noGotoQ]
  refine hK22 _ ?_
  try clear hK22 K22
  simp only [bL]
  simp only [↓aops, ↓aop, ↓aWant, ↓aVal, bS, bA, AV.flat, AV.cl, AV.one, Value.oneCell', thenQ, blockQ, noGotoQ, ↓reduceIte, Nat.reduceEqDiff, reduceCtorEq, tyX, Bd.take1, Bd.drop1, Bd.cells_len, Bd.one]
  refine hK21 _ ?_
  try clear hK21 K21
  refine AWp_ret ?_
  try simp only [thenQ, blockQ, noGotoQ, retQ, aRes, tupOf, bS, bA]
  exact Le.refl _
end Go.Proofs.Ytohdoloalolpfaa
