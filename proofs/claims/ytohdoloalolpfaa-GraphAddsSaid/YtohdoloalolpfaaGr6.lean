import Derived.Test.YtohdoloalolpfaaGr5
namespace Go.Proofs.Ytohdoloalolpfaa
open Go Go.RowKit
set_option maxRecDepth 100000
set_option maxHeartbeats 1000000
set_option linter.unusedSimpArgs false
set_option linter.unusedVariables false
attribute [local irreducible] aops dRun
theorem Ty.sameL_refl : ∀ ps : List Ty, (∀ p ∈ ps, p.same p = true) → Ty.sameL ps ps = true := fun ps h =>
  Ty.sameL_true rfl fun k p q hp hq => by
    rw [hp] at hq; cases hq
    exact h p (List.mem_of_getElem? hp)
theorem Ty.same_refl : ∀ t : Ty, t.same t = true := by
  refine Ty.ind fun t ih => ?_
  rw [Ty.same_eq, Ty.sameL_refl t.ps ih]; simp
theorem und_nodes {n : Nat} {g : List RNode} : Und n (.sl 4 (g.map RNode.cells)) := .data (RNode.dataSl g)
/-- a graph that was made first, its map first of all -/
def gO (G : GS) : Os := [(2, .tok 87 4 G.N.length), (1, .cells 91 [.osl 2 4 (G.N.map GNode.cells), .map 0]), (0, .map (G.V.map vC))]
theorem gO_und {n : Nat} (h : 3 ≤ n) (G : GS) : UndOs n (gO G) := ⟨by omega, trivial, by omega, ⟨.oslG (by omega), .map (by omega), trivial⟩, by omega, fun p hp => .data (vC_data G.V p hp), trivial⟩
theorem gAdd_right {t : Ty} (h : t.right = true) (G : GS) : t.gAdd G = ((t.gadd G).1, (t.gadd G).2, 0) := by rw [Ty.gAdd, if_pos h]
theorem gAdd_wrong {t : Ty} (h : t.right = false) (G : GS) : t.gAdd G = (G, 0, 1) := by rw [Ty.gAdd, if_neg (by rw [h]; simp)]
theorem New_calls : ACalls Try.prog 48 [] [] 0 fun r os n => (r = .ptr 1 0 ∧ os = [(1, .cells 91 [.v (.slice none 0 0), .map 0]), (0, .map [])]) ∧ n = 2 := by
  refine ACalls.cleanN (n := 2) (C := fun r os => r = _ ∧ os = _) (by omega) ?_
  refine ACalls_intro Try.func48 (by kernel_rfl) rfl (by rw [Try.ntmps48]; simp) (fun hm => ?_)
  simp only [Try.ntmps48, Try.results48, List.length_cons, List.length_nil, Nat.reduceAdd, Nat.reduceSub, List.replicate_succ, List.replicate_zero, List.cons_append, List.nil_append]
  refine AWp_seqK fun K1 hK1 => ?_
  refine AWp_region ?_
  simp only [↓aops, ↓aop, ↓aWant, ↓aVal, bS, bA, AV.flat, AV.cl, AV.one, Value.oneCell', thenQ, blockQ, noGotoQ, ↓reduceIte, Nat.reduceEqDiff, reduceCtorEq]
  refine hK1 _ ?_
  try clear hK1 K1
  refine AWp_seqK fun K2 hK2 => ?_
  refine AWp_region ?_
  simp only [↓aops, ↓aop, ↓aWant, ↓aVal, bS, bA, AV.flat, AV.cl, AV.one, Value.oneCell', thenQ, blockQ, noGotoQ, ↓reduceIte, Nat.reduceEqDiff, reduceCtorEq, aBuild, zc91, pc91, aFill, splice, bL, Nat.reduceAdd, Nat.reduceLeDiff]
  refine hK2 _ ?_
  try clear hK2 K2
  refine AWp_ret ?_
  try simp only [thenQ, blockQ, noGotoQ, retQ, aRes, tupOf, bS, bA]
  refine ⟨_, _, ⟨rfl, rfl⟩, .ptr (by omega), ⟨by omega, ⟨.v _ _, .map (by omega), trivial⟩, by omega, (by intro p hp; cases hp), trivial⟩, Le.refl _, ⟨0, rfl, rfl⟩, by omega⟩
theorem awake_add : (Ty.mk 4 0 [Ty.mk 1 0 [], Ty.mk 1 0 []]).gAdd ⟨[], []⟩ = ((⟨[⟨1, 0, 1, []⟩, ⟨4, 0, 3, [0, 0]⟩], [(0, 0)]⟩ : GS), 1, 0) := by rfl
theorem awake_pure : APure Try.prog 12 [] (.v (.bool true)) := by
  refine APure.mkL (.nil) (.v _) ?_
  refine ACalls_intro Try.func12 (by kernel_rfl) rfl (by rw [Try.ntmps12]; simp) (fun hm => ?_)
  simp only [Try.ntmps12, Try.results12, List.length_cons, List.length_nil, Nat.reduceAdd, Nat.reduceSub, List.replicate_succ, List.replicate_zero, List.cons_append, List.nil_append]
  refine AWp_seqK fun K1 hK1 => ?_
  refine AWp_region ?_
  simp only [↓aops, ↓aop, ↓aWant, ↓aVal, bS, bA, AV.flat, AV.cl, AV.one, Value.oneCell', thenQ, blockQ, noGotoQ, ↓reduceIte, Nat.reduceEqDiff, reduceCtorEq, tyX, awake_add, bL, Nat.reduceAdd]
  refine hK1 _ ?_
  try clear hK1 K1
  refine AWp_seqK fun K2 hK2 => ?_
  refine AWp_region ?_
  refine aops_chunk 1 fun C3 hC3 => ?_
  simp only [bL, ↓aops, ↓aop, ↓aWant, ↓aVal, bS, bA, AV.flat, AV.cl, AV.one, Value.oneCell', thenQ, blockQ, noGotoQ, ↓reduceIte, Nat.reduceEqDiff, reduceCtorEq, aCallV, tyX, awake_add, Nat.reduceAdd]
  refine New_calls.mono ?_
  rintro r os' nx' ⟨⟨rfl, rfl⟩, rfl⟩
  try simp only [bS, bA, thenQ, blockQ, noGotoQ]
  refine hC3 _ ?_
  try clear hC3 C3
  simp only [bL]
  simp only [↓aops, ↓aop, ↓aWant, ↓aVal, bS, bA, AV.flat, AV.cl, AV.one, Value.oneCell', thenQ, blockQ, noGotoQ, ↓reduceIte, Nat.reduceEqDiff, reduceCtorEq, tyX, awake_add, bL, Nat.reduceAdd]
  refine hK2 _ ?_
  try clear hK2 K2
  refine AWp_weak (Weak.tokCell 87 4 (id := 1) (t := 91) [.osl 2 4 ([].map GNode.cells), .map 0] rfl ⟨.inr ⟨rfl, rfl⟩, .inl (.refl _), trivial⟩) ?_
  simp only [putO, Nat.reduceEqDiff, ↓reduceIte]
  refine AWp_seqK fun K4 hK4 => ?_
  refine AWp_region ?_
  refine aops_chunk 1 fun C5 hC5 => ?_
  simp only [bL, ↓aops, ↓aop, ↓aWant, ↓aVal, bS, bA, AV.flat, AV.cl, AV.one, Value.oneCell', thenQ, blockQ, noGotoQ, ↓reduceIte, Nat.reduceEqDiff, reduceCtorEq, tyX, awake_add, Nat.reduceAdd]
  refine hC5 _ ?_
  try clear hC5 C5
  simp only [bL]
  refine aops_chunk 1 fun C6 hC6 => ?_
  simp only [bL, ↓aops, ↓aop, ↓aWant, ↓aVal, bS, bA, AV.flat, AV.cl, AV.one, Value.oneCell', thenQ, blockQ, noGotoQ, ↓reduceIte, Nat.reduceEqDiff, reduceCtorEq, aCallV, tyX, awake_add, Nat.reduceAdd]
  refine APure.call (TVar_pure 0) ?_
  try simp only [bS, bA, thenQ, blockQ, noGotoQ]
  refine hC6 _ ?_
  try clear hC6 C6
  simp only [bL]
  refine aops_chunk 1 fun C7 hC7 => ?_
  simp only [bL, ↓aops, ↓aop, ↓aWant, ↓aVal, bS, bA, AV.flat, AV.cl, AV.one, Value.oneCell', thenQ, blockQ, noGotoQ, ↓reduceIte, Nat.reduceEqDiff, reduceCtorEq, aCallV, tyX, awake_add, Nat.reduceAdd]
  refine APure.call (TVar_pure 0) ?_
  try simp only [bS, bA, thenQ, blockQ, noGotoQ]
  refine hC7 _ ?_
  try clear hC7 C7
  simp only [bL]
  refine aops_chunk 1 fun C8 hC8 => ?_
  simp only [bL, ↓aops, ↓aop, ↓aWant, ↓aVal, bS, bA, AV.flat, AV.cl, AV.one, Value.oneCell', thenQ, blockQ, noGotoQ, ↓reduceIte, Nat.reduceEqDiff, reduceCtorEq, ↓bs2_1, ↓bs2_2, ↓bs2_3, ↓bs2_4, ↓bs2_5, ↓bs2_6, ↓bs2_7, ↓bs2_8, ↓bs2_9, ↓bs2_10, ↓bs2_11, ↓bs2_12, aBuildSl, ei22, ia32, List.range_succ, List.range_zero, List.forall_mem_cons, List.not_mem_nil, false_imp_iff, implies_true, Nat.reduceAdd, Nat.reduceLeDiff, forall_eq, List.mem_singleton, tyX, awake_add]
  refine hC8 _ ?_
  try clear hC8 C8
  simp only [bL]
  refine aops_chunk 1 fun C9 hC9 => ?_
  simp only [bL, ↓aops, ↓aop, ↓aWant, ↓aVal, bS, bA, AV.flat, AV.cl, AV.one, Value.oneCell', thenQ, blockQ, noGotoQ, ↓reduceIte, Nat.reduceEqDiff, reduceCtorEq, aCallV, tyX, awake_add, Nat.reduceAdd]
  refine APure.call (show APure Try.prog 49 [.sl 3 [(Ty.mk 1 0 []).cells, (Ty.mk 1 0 []).cells]] (.agg (Ty.mk 4 0 [Ty.mk 1 0 [], Ty.mk 1 0 []]).cells) from Arrow_pure 2 [Ty.mk 1 0 [], Ty.mk 1 0 []] rfl (by simp [Ty.cntL, Ty.cnt])) ?_
  try simp only [bS, bA, thenQ, blockQ, noGotoQ]
  refine hC9 _ ?_
  try clear hC9 C9
  simp only [bL]
  refine aops_chunk 1 fun C10 hC10 => ?_
  simp only [bL, ↓aops, ↓aop, ↓aWant, ↓aVal, bS, bA, AV.flat, AV.cl, AV.one, Value.oneCell', thenQ, blockQ, noGotoQ, ↓reduceIte, Nat.reduceEqDiff, reduceCtorEq, aCallV, tyX, awake_add, Nat.reduceAdd]
  refine GCalls.at (Add_calls (Ty.mk 4 0 [Ty.mk 1 0 [], Ty.mk 1 0 []]) ⟨[], []⟩ .empty (by simp [Ty.cntL, Ty.cnt])) (.cons (Ty.dataAgg _) .nil) (.tup (.cons (.v _) (.cons (.v _) .nil))) (i := 1) (j := 2) (k := 0) rfl rfl rfl (by decide) (by decide) (by decide) (by first | omega | (simp only; omega)) (by first | omega | (simp only; omega)) (by first | omega | (simp only; omega)) ?_
  simp only [putO, Nat.reduceEqDiff, ↓reduceIte]
  try simp only [bS, bA, thenQ, blockQ, noGotoQ]
  refine hC10 _ ?_
  try clear hC10 C10
  simp only [bL]
  refine aops_chunk 4 fun C11 hC11 => ?_
  simp only [bL, ↓aops, ↓aop, ↓aWant, ↓aVal, bS, bA, AV.flat, AV.cl, AV.one, Value.oneCell', thenQ, blockQ, noGotoQ, ↓reduceIte, Nat.reduceEqDiff, reduceCtorEq, aExtract, Nat.reduceAdd, Nat.reduceLT, Nat.zero_lt_succ, tyX, awake_add]
  refine hC11 _ ?_
  try clear hC11 C11
  simp only [bL]
  simp only [↓aops, ↓aop, ↓aWant, ↓aVal, bS, bA, AV.flat, AV.cl, AV.one, Value.oneCell', thenQ, blockQ, noGotoQ, ↓reduceIte, Nat.reduceEqDiff, reduceCtorEq, tyX, awake_add, bL, Nat.reduceAdd]
  refine hK4 _ ?_
  try clear hK4 K4
  refine AWp_seqK fun K12 hK12 => ?_
  refine AWp_region ?_
  refine aops_chunk 3 fun C13 hC13 => ?_
  simp only [bL, ↓aops, ↓aop, ↓aWant, ↓aVal, bS, bA, AV.flat, AV.cl, AV.one, Value.oneCell', thenQ, blockQ, noGotoQ, ↓reduceIte, Nat.reduceEqDiff, reduceCtorEq, aBin, pt25, tyX, awake_add, Nat.reduceAdd]
  refine hC13 _ ?_
  try clear hC13 C13
  simp only [bL]
  refine aops_case 16 rfl (fun hc16 => ?_) (fun hc16 => ?_)
  · simp only [List.set_cons_zero, List.set_cons_succ]
    refine aops_chunk 4 fun C14 hC14 => ?_
    simp only [bL, ↓aops, ↓aop, ↓aWant, ↓aVal, bS, bA, AV.flat, AV.cl, AV.one, Value.oneCell', thenQ, blockQ, noGotoQ, ↓reduceIte, Nat.reduceEqDiff, reduceCtorEq, undef, aBin, aBool, tyX, awake_add, Nat.reduceAdd]
    refine hC14 _ ?_
    try clear hC14 C14
    simp only [bL]
    refine aops_case 20 rfl (fun hc20 => ?_) (fun hc20 => ?_)
    · simp only [List.set_cons_zero, List.set_cons_succ]
      refine aops_chunk 4 fun C15 hC15 => ?_
      simp only [bL, ↓aops, ↓aop, ↓aWant, ↓aVal, bS, bA, AV.flat, AV.cl, AV.one, Value.oneCell', thenQ, blockQ, noGotoQ, ↓reduceIte, Nat.reduceEqDiff, reduceCtorEq, undef, aBin, aBool, tyX, awake_add, Nat.reduceAdd]
      refine hC15 _ ?_
      try clear hC15 C15
      simp only [bL]
      refine aops_case 24 rfl (fun hc24 => ?_) (fun hc24 => ?_)
      · simp only [List.set_cons_zero, List.set_cons_succ]
        refine aops_chunk 1 fun C16 hC16 => ?_
        simp only [bL, ↓aops, ↓aop, ↓aWant, ↓aVal, bS, bA, AV.flat, AV.cl, AV.one, Value.oneCell', thenQ, blockQ, noGotoQ, ↓reduceIte, Nat.reduceEqDiff, reduceCtorEq, undef, tyX, awake_add, Nat.reduceAdd]
        refine hC16 _ ?_
        try clear hC16 C16
        simp only [bL]
        refine aops_chunk 1 fun C17 hC17 => ?_
        simp only [bL, ↓aops, ↓aop, ↓aWant, ↓aVal, bS, bA, AV.flat, AV.cl, AV.one, Value.oneCell', thenQ, blockQ, noGotoQ, ↓reduceIte, Nat.reduceEqDiff, reduceCtorEq, undef, aCallV, tyX, awake_add, Nat.reduceAdd]
        refine GCalls.at (Len_calls (⟨[⟨1, 0, 1, []⟩, ⟨4, 0, 3, [0, 0]⟩], [(0, 0)]⟩ : GS)) (.nil) (.v _) (i := 1) (j := 2) (k := 0) rfl rfl rfl (by decide) (by decide) (by decide) (by first | omega | (simp only; omega)) (by first | omega | (simp only; omega)) (by first | omega | (simp only; omega)) ?_
        simp only [putO, Nat.reduceEqDiff, ↓reduceIte]
        try simp only [bS, bA, thenQ, blockQ, noGotoQ]
        refine hC17 _ ?_
        try clear hC17 C17
        simp only [bL]
        refine aops_chunk 3 fun C18 hC18 => ?_
        simp only [bL, ↓aops, ↓aop, ↓aWant, ↓aVal, bS, bA, AV.flat, AV.cl, AV.one, Value.oneCell', thenQ, blockQ, noGotoQ, ↓reduceIte, Nat.reduceEqDiff, reduceCtorEq, undef, aBin, aBool, tyX, awake_add, Nat.reduceAdd]
        refine hC18 _ ?_
        try clear hC18 C18
        simp only [bL]
        refine aops_case 29 rfl (fun hc29 => ?_) (fun hc29 => ?_)
        · simp only [List.set_cons_zero, List.set_cons_succ]
          refine aops_chunk 1 fun C19 hC19 => ?_
          simp only [bL, ↓aops, ↓aop, ↓aWant, ↓aVal, bS, bA, AV.flat, AV.cl, AV.one, Value.oneCell', thenQ, blockQ, noGotoQ, ↓reduceIte, Nat.reduceEqDiff, reduceCtorEq, undef, tyX, awake_add, Nat.reduceAdd]
          refine hC19 _ ?_
          try clear hC19 C19
          simp only [bL]
          refine aops_chunk 1 fun C20 hC20 => ?_
          simp only [bL, ↓aops, ↓aop, ↓aWant, ↓aVal, bS, bA, AV.flat, AV.cl, AV.one, Value.oneCell', thenQ, blockQ, noGotoQ, ↓reduceIte, Nat.reduceEqDiff, reduceCtorEq, undef, aCallV, tyX, awake_add, Nat.reduceAdd]
          refine GCalls.at (Parts_calls (⟨[⟨1, 0, 1, []⟩, ⟨4, 0, 3, [0, 0]⟩], [(0, 0)]⟩ : GS) 1 (by simp)) (.cons (.v _) .nil) (dataInts _) (i := 1) (j := 2) (k := 0) rfl rfl rfl (by decide) (by decide) (by decide) (by first | omega | (simp only; omega)) (by first | omega | (simp only; omega)) (by first | omega | (simp only; omega)) ?_
          simp only [putO, Nat.reduceEqDiff, ↓reduceIte]
          try simp only [bS, bA, thenQ, blockQ, noGotoQ]
          refine hC20 _ ?_
          try clear hC20 C20
          simp only [bL]
          refine aops_chunk 1 fun C21 hC21 => ?_
          simp only [bL, ↓aops, ↓aop, ↓aWant, ↓aVal, bS, bA, AV.flat, AV.cl, AV.one, Value.oneCell', thenQ, blockQ, noGotoQ, ↓reduceIte, Nat.reduceEqDiff, reduceCtorEq, undef, ↓bs2_1, ↓bs2_2, ↓bs2_3, ↓bs2_4, ↓bs2_5, ↓bs2_6, ↓bs2_7, ↓bs2_8, ↓bs2_9, ↓bs2_10, ↓bs2_11, ↓bs2_12, aBuildSl, ei28, ia3, List.range_succ, List.range_zero, List.forall_mem_cons, List.not_mem_nil, false_imp_iff, implies_true, Nat.reduceAdd, Nat.reduceLeDiff, forall_eq, List.mem_singleton, tyX, awake_add]
          refine hC21 _ ?_
          try clear hC21 C21
          simp only [bL]
          refine aops_chunk 1 fun C22 hC22 => ?_
          simp only [bL, ↓aops, ↓aop, ↓aWant, ↓aVal, bS, bA, AV.flat, AV.cl, AV.one, Value.oneCell', thenQ, blockQ, noGotoQ, ↓reduceIte, Nat.reduceEqDiff, reduceCtorEq, undef, aCallV, tyX, awake_add, Nat.reduceAdd]
          refine APure.call (show APure Try.prog 21 [.sl 1 ([0, 0].map intC), .sl 1 [intC 0, intC 0]] (.v (.bool (decide (([0, 0] : List Int) = [0, 0])))) from Ints_pure [0, 0] [0, 0]) ?_
          try simp only [bS, bA, thenQ, blockQ, noGotoQ]
          refine hC22 _ ?_
          try clear hC22 C22
          simp only [bL]
          simp only [↓aops, ↓aop, ↓aWant, ↓aVal, bS, bA, AV.flat, AV.cl, AV.one, Value.oneCell', thenQ, blockQ, noGotoQ, ↓reduceIte, Nat.reduceEqDiff, reduceCtorEq, aBool, tyX, awake_add, bL, Nat.reduceAdd]
          refine hK12 _ ?_
          try clear hK12 K12
          refine AWp_ret ?_
          try simp only [thenQ, blockQ, noGotoQ, retQ, aRes, tupOf, bS, bA]
          exact Le.refl _
        · simp only [List.set_cons_zero, List.set_cons_succ]
          exact absurd hc29 (by simp)
      · simp only [List.set_cons_zero, List.set_cons_succ]
        exact absurd hc24 (by simp)
    · simp only [List.set_cons_zero, List.set_cons_succ]
      exact absurd hc20 (by simp)
  · simp only [List.set_cons_zero, List.set_cons_succ]
    exact absurd hc16 (by simp)
theorem both_calls (ps : List Ty) (hg : greatL ps = false) : ACalls Try.prog 13 [.sl 3 (ps.map Ty.cells)] [] 0 fun r os n => (r = .tup [.ptr 1 0, .sl 4 ((bothF ps).m.map RNode.cells), .sl 1 ((bothF ps).l.map intC), .v (.bool true)] ∧ os = gO (bothF ps).G) ∧ n = 3 := by
  obtain ⟨hg1, hg2, hg3⟩ := greatL_spec hg
  have hcs : ∀ t ∈ ps, t.cnt ≤ 400 := fun t ht => by have := Ty.great_cnt (hg3 t ht); omega
  refine ACalls.cleanN (n := 3) (C := fun r os => r = _ ∧ os = _) (by omega) ?_
  refine ACalls_intro Try.func13 (by kernel_rfl) rfl (by rw [Try.ntmps13]; simp) (fun hm => ?_)
  simp only [Try.ntmps13, Try.results13, List.length_cons, List.length_nil, Nat.reduceAdd, Nat.reduceSub, List.replicate_succ, List.replicate_zero, List.cons_append, List.nil_append]
  refine AWp_seqK fun K1 hK1 => ?_
  refine AWp_region ?_
  refine aops_chunk 2 fun C2 hC2 => ?_
  simp only [bL, ↓aops, ↓aop, ↓aWant, ↓aVal, bS, bA, AV.flat, AV.cl, AV.one, Value.oneCell', thenQ, blockQ, noGotoQ, ↓reduceIte, Nat.reduceEqDiff, reduceCtorEq, tyX]
  refine hC2 _ ?_
  try clear hC2 C2
  simp only [bL]
  simp only [↓aops, ↓aop, ↓aWant, ↓aVal, bS, bA, AV.flat, AV.cl, AV.one, Value.oneCell', thenQ, blockQ, noGotoQ, ↓reduceIte, Nat.reduceEqDiff, reduceCtorEq, tyX, bL]
  refine hK1 _ ?_
  try clear hK1 K1
  refine AWp_seqK fun K3 hK3 => ?_
  refine AWp_region ?_
  refine aops_chunk 1 fun C4 hC4 => ?_
  simp only [bL, ↓aops, ↓aop, ↓aWant, ↓aVal, bS, bA, AV.flat, AV.cl, AV.one, Value.oneCell', thenQ, blockQ, noGotoQ, ↓reduceIte, Nat.reduceEqDiff, reduceCtorEq, aCallV, tyX]
  refine New_calls.mono ?_
  rintro r os' nx' ⟨⟨rfl, rfl⟩, rfl⟩
  try simp only [bS, bA, thenQ, blockQ, noGotoQ]
  refine hC4 _ ?_
  try clear hC4 C4
  simp only [bL]
  simp only [↓aops, ↓aop, ↓aWant, ↓aVal, bS, bA, AV.flat, AV.cl, AV.one, Value.oneCell', thenQ, blockQ, noGotoQ, ↓reduceIte, Nat.reduceEqDiff, reduceCtorEq, tyX, bL]
  refine hK3 _ ?_
  try clear hK3 K3
  refine AWp_weak (Weak.tokCell 87 4 (id := 1) (t := 91) [.osl 2 4 ([].map GNode.cells), .map 0] rfl ⟨.inr ⟨rfl, rfl⟩, .inl (.refl _), trivial⟩) ?_
  simp only [putO, Nat.reduceEqDiff, ↓reduceIte]
  refine AWp_seqK fun K5 hK5 => ?_
  refine AWp_region ?_
  simp only [↓aops, ↓aop, ↓aWant, ↓aVal, bS, bA, AV.flat, AV.cl, AV.one, Value.oneCell', thenQ, blockQ, noGotoQ, ↓reduceIte, Nat.reduceEqDiff, reduceCtorEq, tyX, bL]
  refine hK5 _ ?_
  try clear hK5 K5
  refine AWp_seqK fun K6 hK6 => ?_
  refine AWp_region ?_
  simp only [↓aops, ↓aop, ↓aWant, ↓aVal, bS, bA, AV.flat, AV.cl, AV.one, Value.oneCell', thenQ, blockQ, noGotoQ, ↓reduceIte, Nat.reduceEqDiff, reduceCtorEq, tyX, bL]
  refine hK6 _ ?_
  try clear hK6 K6
  refine AWp_seqK fun K7 hK7 => ?_
  refine AWp_seqK fun K8 hK8 => ?_
  refine AWp_region ?_
  simp only [↓aops, ↓aop, ↓aWant, ↓aVal, bS, bA, AV.flat, AV.cl, AV.one, Value.oneCell', thenQ, blockQ, noGotoQ, ↓reduceIte, Nat.reduceEqDiff, reduceCtorEq, tyX, bL]
  refine hK8 _ ?_
  try clear hK8 K8
  refine AWp_block ?_
  refine AWp_weak (Weak.tokSlot 8 3 1 rfl) ?_
  simp only [List.set_cons_zero, List.set_cons_succ]
  refine AWp_loopM (σ := Nat) [true, false, false, false, false, false, true, true, true, true, false, false, false, false, false, false, false, false, false, false, false, false, false, false, false, false, false, false, false, false, false, false, false, false, false, false, false, false, false, false, false, false, false, false, false, false, false, false, false, false, false, false, false, false, false, false, false, false, false, false, false, false, false, false, false, false, false, false, false, false, false, false, false, false] (fun s => s ≤ ps.length) (fun s => [(7, .sl 4 ((bothF (ps.take s)).m.map RNode.cells)), (8, .osl 3 1 ((bothF (ps.take s)).l.map intC)), (9, .v (.int .i64 (s : Int)))]) (fun s => [(0, .map ((bothF (ps.take s)).G.V.map vC)), (1, .cells 91 [.osl 2 4 ((bothF (ps.take s)).G.N.map GNode.cells), .map 0]), (2, .tok 87 4 (bothF (ps.take s)).G.N.length), (3, .tok 3 1 (bothF (ps.take s)).l.length)]) (fun s => ps.length - s) 0 (by omega) ?_ (fun s hs => ?_)
  · skip
    simp only [maskL, setsL, putsO, putO, bA, Nat.reduceEqDiff, ↓reduceIte, bL, bothF, List.foldl_nil]
    exact Weak.mk (by simp only [LeL, Le.refl, Le.any, Le.slNil, and_self, Int.natCast_add, Int.cast_ofNat_Int, Int.natCast_one]) (fun _ _ h => h) rfl rfl
  simp only [maskL, setsL, putsO, putO, bA, Nat.reduceEqDiff, ↓reduceIte]
  refine AWp_seqK fun K9 hK9 => ?_
  refine AWp_seqK fun K10 hK10 => ?_
  refine AWp_region ?_
  refine aops_chunk 2 fun C11 hC11 => ?_
  simp only [bL, ↓aops, ↓aop, ↓aWant, ↓aVal, bS, bA, AV.flat, AV.cl, AV.one, Value.oneCell', thenQ, blockQ, noGotoQ, ↓reduceIte, Nat.reduceEqDiff, reduceCtorEq, tyX]
  refine hC11 _ ?_
  try clear hC11 C11
  simp only [bL]
  simp only [↓aops, ↓aop, ↓aWant, ↓aVal, bS, bA, AV.flat, AV.cl, AV.one, Value.oneCell', thenQ, blockQ, noGotoQ, ↓reduceIte, Nat.reduceEqDiff, reduceCtorEq, getO, aLenX, aLen, ln22, List.length_map, aBin, tyX, bL]
  refine hK10 _ ?_
  try clear hK10 K10
  refine AWp_cond rfl (fun hb18 => ?_) (fun hb18 => ?_)
  · skip
    have hk : s < ps.length := by simpa using hb18
    obtain ⟨p, hp⟩ : ∃ p, ps[s]? = some p := ⟨_, List.getElem?_eq_getElem hk⟩
    have hpm := List.mem_of_getElem? hp
    have hpc := hcs p hpm
    have hi := bothF_inv ps hcs s (by omega)
    have hcl := Ty.cntL_step hp
    have hil := hi.len
    have hill := hi.llen
    have hfl := List.length_filter_le Ty.right (ps.take s)
    have htl : (ps.take s).length ≤ s := by simp; omega
    have hml := hi.rel.len
    have hbs := bothF_step hp
    have hw : IntKind.i64.wrap ((s : Int) + 1) = (s : Int) + 1 := wrap_in (by omega) (by omega)
    have hb1 : ((bothF (ps.take s)).l.length + 1) * 8 ≤ 140737488355328 := by omega
    have hb2 : (bothF (ps.take s)).l.length + 1 ≤ maxLen := by simp only [maxLen]; omega
    refine AWp_skip ?_
    try simp only [thenQ, blockQ, noGotoQ]
    refine hK9 _ ?_
    try clear hK9 K9
    refine AWp_seqK fun K12 hK12 => ?_
    refine AWp_block ?_
    refine AWp_seqK fun K13 hK13 => ?_
    refine AWp_region ?_
    refine aops_chunk 2 fun C14 hC14 => ?_
    simp only [bL, ↓aops, ↓aop, ↓aWant, ↓aVal, bS, bA, AV.flat, AV.cl, AV.one, Value.oneCell', thenQ, blockQ, noGotoQ, ↓reduceIte, Nat.reduceEqDiff, reduceCtorEq, tyX, hk, getD_map_cells hp, Int.natCast_add, Int.natCast_one, hw, hb1, hb2, List.map_append, List.length_map, List.length_append]
    refine hC14 _ ?_
    try clear hC14 C14
    simp only [bL]
    refine aops_chunk 2 fun C15 hC15 => ?_
    simp only [bL, ↓aops, ↓aop, ↓aWant, ↓aVal, bS, bA, AV.flat, AV.cl, AV.one, Value.oneCell', thenQ, blockQ, noGotoQ, ↓reduceIte, Nat.reduceEqDiff, reduceCtorEq, getO, aIndexA, es22, Int.natCast_nonneg, Int.ofNat_lt, Int.toNat_natCast, List.length_map, Int.le_refl, Int.toNat_zero, Int.toNat_one, Int.reduceLE, tyX, hk, getD_map_cells hp, Int.natCast_add, Int.natCast_one, hw, hb1, hb2, List.map_append, List.length_append]
    refine hC15 _ ?_
    try clear hC15 C15
    simp only [bL]
    refine aops_chunk 1 fun C16 hC16 => ?_
    simp only [bL, ↓aops, ↓aop, ↓aWant, ↓aVal, bS, bA, AV.flat, AV.cl, AV.one, Value.oneCell', thenQ, blockQ, noGotoQ, ↓reduceIte, Nat.reduceEqDiff, reduceCtorEq, aLoad, ti32, getO, pack, Nat.reduceAdd, Nat.reduceLeDiff, tyX, hk, getD_map_cells hp, Int.natCast_add, Int.natCast_one, hw, hb1, hb2, List.map_append, List.length_map, List.length_append]
    refine hC16 _ ?_
    try clear hC16 C16
    simp only [bL]
    refine aops_chunk 1 fun C17 hC17 => ?_
    simp only [bL, ↓aops, ↓aop, ↓aWant, ↓aVal, bS, bA, AV.flat, AV.cl, AV.one, Value.oneCell', thenQ, blockQ, noGotoQ, ↓reduceIte, Nat.reduceEqDiff, reduceCtorEq, aCallV, tyX, hk, getD_map_cells hp, Int.natCast_add, Int.natCast_one, hw, hb1, hb2, List.map_append, List.length_map, List.length_append]
    refine GCalls.at (Add_calls p (bothF (ps.take s)).G hi.inv (by omega)) (.cons (Ty.dataAgg p) .nil) (.tup (.cons (.v _) (.cons (.v _) .nil))) (i := 1) (j := 2) (k := 0) rfl rfl rfl (by decide) (by decide) (by decide) (by first | omega | (simp only; omega)) (by first | omega | (simp only; omega)) (by first | omega | (simp only; omega)) ?_
    simp only [putO, Nat.reduceEqDiff, ↓reduceIte]
    try simp only [bS, bA, thenQ, blockQ, noGotoQ]
    refine hC17 _ ?_
    try clear hC17 C17
    simp only [bL]
    refine aops_chunk 2 fun C18 hC18 => ?_
    simp only [bL, ↓aops, ↓aop, ↓aWant, ↓aVal, bS, bA, AV.flat, AV.cl, AV.one, Value.oneCell', thenQ, blockQ, noGotoQ, ↓reduceIte, Nat.reduceEqDiff, reduceCtorEq, aExtract, Nat.reduceAdd, Nat.reduceLT, Nat.zero_lt_succ, tyX, hk, getD_map_cells hp, Int.natCast_add, Int.natCast_one, hw, hb1, hb2, List.map_append, List.length_map, List.length_append]
    refine hC18 _ ?_
    try clear hC18 C18
    simp only [bL]
    refine aops_chunk 2 fun C19 hC19 => ?_
    simp only [bL, ↓aops, ↓aop, ↓aWant, ↓aVal, bS, bA, AV.flat, AV.cl, AV.one, Value.oneCell', thenQ, blockQ, noGotoQ, ↓reduceIte, Nat.reduceEqDiff, reduceCtorEq, aExtract, Nat.reduceAdd, Nat.reduceLT, Nat.zero_lt_succ, tyX, hk, getD_map_cells hp, Int.natCast_add, Int.natCast_one, hw, hb1, hb2, List.map_append, List.length_map, List.length_append]
    refine hC19 _ ?_
    try clear hC19 C19
    simp only [bL]
    simp only [↓aops, ↓aop, ↓aWant, ↓aVal, bS, bA, AV.flat, AV.cl, AV.one, Value.oneCell', thenQ, blockQ, noGotoQ, ↓reduceIte, Nat.reduceEqDiff, reduceCtorEq, tyX, bL, hk, getD_map_cells hp, Int.natCast_add, Int.natCast_one, hw, hb1, hb2, List.map_append, List.length_map, List.length_append]
    refine hK13 _ ?_
    try clear hK13 K13
    refine AWp_seqK fun K20 hK20 => ?_
    refine AWp_seqK fun K21 hK21 => ?_
    refine AWp_region ?_
    refine aops_chunk 2 fun C22 hC22 => ?_
    simp only [bL, ↓aops, ↓aop, ↓aWant, ↓aVal, bS, bA, AV.flat, AV.cl, AV.one, Value.oneCell', thenQ, blockQ, noGotoQ, ↓reduceIte, Nat.reduceEqDiff, reduceCtorEq, tyX, hk, getD_map_cells hp, Int.natCast_add, Int.natCast_one, hw, hb1, hb2, List.map_append, List.length_map, List.length_append]
    refine hC22 _ ?_
    try clear hC22 C22
    simp only [bL]
    refine aops_chunk 2 fun C23 hC23 => ?_
    simp only [bL, ↓aops, ↓aop, ↓aWant, ↓aVal, bS, bA, AV.flat, AV.cl, AV.one, Value.oneCell', thenQ, blockQ, noGotoQ, ↓reduceIte, Nat.reduceEqDiff, reduceCtorEq, getO, aIndexA, es22, Int.natCast_nonneg, Int.ofNat_lt, Int.toNat_natCast, List.length_map, Int.le_refl, Int.toNat_zero, Int.toNat_one, Int.reduceLE, aLoad, ti32, pack, Nat.reduceAdd, Nat.reduceLeDiff, tyX, hk, getD_map_cells hp, Int.natCast_add, Int.natCast_one, hw, hb1, hb2, List.map_append, List.length_append]
    refine hC23 _ ?_
    try clear hC23 C23
    simp only [bL]
    refine aops_chunk 1 fun C24 hC24 => ?_
    simp only [bL, ↓aops, ↓aop, ↓aWant, ↓aVal, bS, bA, AV.flat, AV.cl, AV.one, Value.oneCell', thenQ, blockQ, noGotoQ, ↓reduceIte, Nat.reduceEqDiff, reduceCtorEq, aCallV, tyX, hk, getD_map_cells hp, Int.natCast_add, Int.natCast_one, hw, hb1, hb2, List.map_append, List.length_map, List.length_append]
    refine APure.call (RefRight_pure p) ?_
    try simp only [bS, bA, thenQ, blockQ, noGotoQ]
    refine hC24 _ ?_
    try clear hC24 C24
    simp only [bL]
    simp only [↓aops, ↓aop, ↓aWant, ↓aVal, bS, bA, AV.flat, AV.cl, AV.one, Value.oneCell', thenQ, blockQ, noGotoQ, ↓reduceIte, Nat.reduceEqDiff, reduceCtorEq, aUn, tyX, bL, hk, getD_map_cells hp, Int.natCast_add, Int.natCast_one, hw, hb1, hb2, List.map_append, List.length_map, List.length_append]
    refine hK21 _ ?_
    try clear hK21 K21
    refine AWp_cond rfl (fun hb35 => ?_) (fun hb35 => ?_)
    · skip
      have hr : p.right = false := by simpa using hb35
      have hga := gAdd_wrong hr (bothF (ps.take s)).G
      have hst : bothF (ps.take (s + 1)) = (bothF (ps.take s)) := by rw [hbs, bStep, if_neg (by rw [hr]; simp)]
      refine AWp_seqK fun K25 hK25 => ?_
      refine AWp_seqK fun K26 hK26 => ?_
      refine AWp_region ?_
      refine aops_chunk 2 fun C27 hC27 => ?_
      simp only [bL, ↓aops, ↓aop, ↓aWant, ↓aVal, bS, bA, AV.flat, AV.cl, AV.one, Value.oneCell', thenQ, blockQ, noGotoQ, ↓reduceIte, Nat.reduceEqDiff, reduceCtorEq, aBin, tyX, hk, getD_map_cells hp, Int.natCast_add, Int.natCast_one, hw, hb1, hb2, List.map_append, List.length_map, List.length_append, hga, hst]
      refine hC27 _ ?_
      try clear hC27 C27
      simp only [bL]
      refine aops_chunk 1 fun C28 hC28 => ?_
      simp only [bL, ↓aops, ↓aop, ↓aWant, ↓aVal, bS, bA, AV.flat, AV.cl, AV.one, Value.oneCell', thenQ, blockQ, noGotoQ, ↓reduceIte, Nat.reduceEqDiff, reduceCtorEq, tyX, hk, getD_map_cells hp, Int.natCast_add, Int.natCast_one, hw, hb1, hb2, List.map_append, List.length_map, List.length_append, hga, hst]
      refine hC28 _ ?_
      try clear hC28 C28
      simp only [bL]
      refine aops_case 38 rfl (fun hc38 => ?_) (fun hc38 => ?_)
      · simp only [List.set_cons_zero, List.set_cons_succ]
        exact absurd hc38 (by simp [hga])
      · simp only [List.set_cons_zero, List.set_cons_succ]
        refine aops_chunk 2 fun C29 hC29 => ?_
        simp only [bL, ↓aops, ↓aop, ↓aWant, ↓aVal, bS, bA, AV.flat, AV.cl, AV.one, Value.oneCell', thenQ, blockQ, noGotoQ, ↓reduceIte, Nat.reduceEqDiff, reduceCtorEq, undef, aBin, tyX, hk, getD_map_cells hp, Int.natCast_add, Int.natCast_one, hw, hb1, hb2, List.map_append, List.length_map, List.length_append, hga, hst]
        refine hC29 _ ?_
        try clear hC29 C29
        simp only [bL]
        simp only [↓aops, ↓aop, ↓aWant, ↓aVal, bS, bA, AV.flat, AV.cl, AV.one, Value.oneCell', thenQ, blockQ, noGotoQ, ↓reduceIte, Nat.reduceEqDiff, reduceCtorEq, aBool, tyX, bL, hk, getD_map_cells hp, Int.natCast_add, Int.natCast_one, hw, hb1, hb2, List.map_append, List.length_map, List.length_append, hga, hst]
        refine hK26 _ ?_
        try clear hK26 K26
        refine AWp_cond rfl (fun hb41 => ?_) (fun hb41 => ?_)
        · skip
          exact absurd hb41 (by simp [hga])
        · skip
          refine AWp_skip ?_
          try simp only [thenQ, blockQ, noGotoQ]
          refine hK25 _ ?_
          try clear hK25 K25
          refine AWp_exit ?_
          simp only [thenQ, blockQ, noGotoQ, bA, Nat.reduceEqDiff, ↓reduceIte]
          refine hK12 _ ?_
          try clear hK12 K12
          refine AWp_region ?_
          refine aops_chunk 2 fun C30 hC30 => ?_
          simp only [bL, ↓aops, ↓aop, ↓aWant, ↓aVal, bS, bA, AV.flat, AV.cl, AV.one, Value.oneCell', thenQ, blockQ, noGotoQ, ↓reduceIte, Nat.reduceEqDiff, reduceCtorEq, aBin, tyX, hk, getD_map_cells hp, Int.natCast_add, Int.natCast_one, hw, hb1, hb2, List.map_append, List.length_map, List.length_append, hga, hst]
          refine hC30 _ ?_
          try clear hC30 C30
          simp only [bL]
          simp only [↓aops, ↓aop, ↓aWant, ↓aVal, bS, bA, AV.flat, AV.cl, AV.one, Value.oneCell', thenQ, blockQ, noGotoQ, ↓reduceIte, Nat.reduceEqDiff, reduceCtorEq, tyX, bL, hk, getD_map_cells hp, Int.natCast_add, Int.natCast_one, hw, hb1, hb2, List.map_append, List.length_map, List.length_append, hga, hst]
          refine ⟨(s + 1), (by omega), by omega, ?_⟩
          simp only [maskL, setsL, putsO, putO, bA, Nat.reduceEqDiff, ↓reduceIte, hk, getD_map_cells hp, Int.natCast_add, Int.natCast_one, hw, hb1, hb2, List.map_append, bL, List.length_map, List.length_append, hga, hst]
          exact Weak.mk (by simp only [LeL, Le.refl, Le.any, Le.slNil, and_self, Int.natCast_add, Int.cast_ofNat_Int, Int.natCast_one]) (fun _ _ h => h) rfl rfl
    · skip
      have hr : p.right = true := by simpa using hb35
      have hga := gAdd_right hr (bothF (ps.take s)).G
      have hst : bothF (ps.take (s + 1)) = ⟨(p.gadd (bothF (ps.take s)).G).1, (p.radd (bothF (ps.take s)).m).1, (bothF (ps.take s)).l ++ [(p.radd (bothF (ps.take s)).m).2]⟩ := by rw [hbs, bStep, if_pos hr]
      have hsm := (rel_add p hr hpc _ _ hi.rel).same
      refine AWp_skip ?_
      try simp only [thenQ, blockQ, noGotoQ]
      refine hK20 _ ?_
      try clear hK20 K20
      refine AWp_seqK fun K31 hK31 => ?_
      refine AWp_region ?_
      refine aops_chunk 2 fun C32 hC32 => ?_
      simp only [bL, ↓aops, ↓aop, ↓aWant, ↓aVal, bS, bA, AV.flat, AV.cl, AV.one, Value.oneCell', thenQ, blockQ, noGotoQ, ↓reduceIte, Nat.reduceEqDiff, reduceCtorEq, tyX, hk, getD_map_cells hp, Int.natCast_add, Int.natCast_one, hw, hb1, hb2, List.map_append, List.length_map, List.length_append, hga, hst]
      refine hC32 _ ?_
      try clear hC32 C32
      simp only [bL]
      refine aops_chunk 2 fun C33 hC33 => ?_
      simp only [bL, ↓aops, ↓aop, ↓aWant, ↓aVal, bS, bA, AV.flat, AV.cl, AV.one, Value.oneCell', thenQ, blockQ, noGotoQ, ↓reduceIte, Nat.reduceEqDiff, reduceCtorEq, getO, aIndexA, es22, Int.natCast_nonneg, Int.ofNat_lt, Int.toNat_natCast, List.length_map, Int.le_refl, Int.toNat_zero, Int.toNat_one, Int.reduceLE, tyX, hk, getD_map_cells hp, Int.natCast_add, Int.natCast_one, hw, hb1, hb2, List.map_append, List.length_append, hga, hst]
      refine hC33 _ ?_
      try clear hC33 C33
      simp only [bL]
      refine aops_chunk 1 fun C34 hC34 => ?_
      simp only [bL, ↓aops, ↓aop, ↓aWant, ↓aVal, bS, bA, AV.flat, AV.cl, AV.one, Value.oneCell', thenQ, blockQ, noGotoQ, ↓reduceIte, Nat.reduceEqDiff, reduceCtorEq, aLoad, ti32, getO, pack, Nat.reduceAdd, Nat.reduceLeDiff, tyX, hk, getD_map_cells hp, Int.natCast_add, Int.natCast_one, hw, hb1, hb2, List.map_append, List.length_map, List.length_append, hga, hst]
      refine hC34 _ ?_
      try clear hC34 C34
      simp only [bL]
      refine aops_chunk 1 fun C35 hC35 => ?_
      simp only [bL, ↓aops, ↓aop, ↓aWant, ↓aVal, bS, bA, AV.flat, AV.cl, AV.one, Value.oneCell', thenQ, blockQ, noGotoQ, ↓reduceIte, Nat.reduceEqDiff, reduceCtorEq, aCallV, tyX, hk, getD_map_cells hp, Int.natCast_add, Int.natCast_one, hw, hb1, hb2, List.map_append, List.length_map, List.length_append, hga, hst]
      refine APure.call (RAdd_pure p (bothF (ps.take s)).m (by omega)) ?_
      try simp only [bS, bA, thenQ, blockQ, noGotoQ]
      refine hC35 _ ?_
      try clear hC35 C35
      simp only [bL]
      refine aops_chunk 2 fun C36 hC36 => ?_
      simp only [bL, ↓aops, ↓aop, ↓aWant, ↓aVal, bS, bA, AV.flat, AV.cl, AV.one, Value.oneCell', thenQ, blockQ, noGotoQ, ↓reduceIte, Nat.reduceEqDiff, reduceCtorEq, aExtract, Nat.reduceAdd, Nat.reduceLT, Nat.zero_lt_succ, tyX, hk, getD_map_cells hp, Int.natCast_add, Int.natCast_one, hw, hb1, hb2, List.map_append, List.length_map, List.length_append, hga, hst]
      refine hC36 _ ?_
      try clear hC36 C36
      simp only [bL]
      refine aops_chunk 2 fun C37 hC37 => ?_
      simp only [bL, ↓aops, ↓aop, ↓aWant, ↓aVal, bS, bA, AV.flat, AV.cl, AV.one, Value.oneCell', thenQ, blockQ, noGotoQ, ↓reduceIte, Nat.reduceEqDiff, reduceCtorEq, aExtract, Nat.reduceAdd, Nat.reduceLT, Nat.zero_lt_succ, tyX, hk, getD_map_cells hp, Int.natCast_add, Int.natCast_one, hw, hb1, hb2, List.map_append, List.length_map, List.length_append, hga, hst]
      refine hC37 _ ?_
      try clear hC37 C37
      simp only [bL]
      simp only [↓aops, ↓aop, ↓aWant, ↓aVal, bS, bA, AV.flat, AV.cl, AV.one, Value.oneCell', thenQ, blockQ, noGotoQ, ↓reduceIte, Nat.reduceEqDiff, reduceCtorEq, tyX, bL, hk, getD_map_cells hp, Int.natCast_add, Int.natCast_one, hw, hb1, hb2, List.map_append, List.length_map, List.length_append, hga, hst]
      refine hK31 _ ?_
      try clear hK31 K31
      refine AWp_seqK fun K38 hK38 => ?_
      refine AWp_region ?_
      simp only [↓aops, ↓aop, ↓aWant, ↓aVal, bS, bA, AV.flat, AV.cl, AV.one, Value.oneCell', thenQ, blockQ, noGotoQ, ↓reduceIte, Nat.reduceEqDiff, reduceCtorEq, tyX, bL, hk, getD_map_cells hp, Int.natCast_add, Int.natCast_one, hw, hb1, hb2, List.map_append, List.length_map, List.length_append, hga, hst]
      refine hK38 _ ?_
      try clear hK38 K38
      refine AWp_seqK fun K39 hK39 => ?_
      refine AWp_seqK fun K40 hK40 => ?_
      refine AWp_region ?_
      refine aops_chunk 2 fun C41 hC41 => ?_
      simp only [bL, ↓aops, ↓aop, ↓aWant, ↓aVal, bS, bA, AV.flat, AV.cl, AV.one, Value.oneCell', thenQ, blockQ, noGotoQ, ↓reduceIte, Nat.reduceEqDiff, reduceCtorEq, tyX, hk, getD_map_cells hp, Int.natCast_add, Int.natCast_one, hw, hb1, hb2, List.map_append, List.length_map, List.length_append, hga, hst]
      refine hC41 _ ?_
      try clear hC41 C41
      simp only [bL]
      refine aops_chunk 2 fun C42 hC42 => ?_
      simp only [bL, ↓aops, ↓aop, ↓aWant, ↓aVal, bS, bA, AV.flat, AV.cl, AV.one, Value.oneCell', thenQ, blockQ, noGotoQ, ↓reduceIte, Nat.reduceEqDiff, reduceCtorEq, aBin, tyX, hk, getD_map_cells hp, Int.natCast_add, Int.natCast_one, hw, hb1, hb2, List.map_append, List.length_map, List.length_append, hga, hst]
      refine hC42 _ ?_
      try clear hC42 C42
      simp only [bL]
      refine aops_case 58 rfl (fun hc58 => ?_) (fun hc58 => ?_)
      · simp only [List.set_cons_zero, List.set_cons_succ]
        exact absurd hc58 (by simp [hga, hsm])
      · simp only [List.set_cons_zero, List.set_cons_succ]
        refine aops_chunk 2 fun C43 hC43 => ?_
        simp only [bL, ↓aops, ↓aop, ↓aWant, ↓aVal, bS, bA, AV.flat, AV.cl, AV.one, Value.oneCell', thenQ, blockQ, noGotoQ, ↓reduceIte, Nat.reduceEqDiff, reduceCtorEq, undef, aBin, tyX, hk, getD_map_cells hp, Int.natCast_add, Int.natCast_one, hw, hb1, hb2, List.map_append, List.length_map, List.length_append, hga, hst]
        refine hC43 _ ?_
        try clear hC43 C43
        simp only [bL]
        simp only [↓aops, ↓aop, ↓aWant, ↓aVal, bS, bA, AV.flat, AV.cl, AV.one, Value.oneCell', thenQ, blockQ, noGotoQ, ↓reduceIte, Nat.reduceEqDiff, reduceCtorEq, aBool, tyX, bL, hk, getD_map_cells hp, Int.natCast_add, Int.natCast_one, hw, hb1, hb2, List.map_append, List.length_map, List.length_append, hga, hst]
        refine hK40 _ ?_
        try clear hK40 K40
        refine AWp_cond rfl (fun hb61 => ?_) (fun hb61 => ?_)
        · skip
          exact absurd hb61 (by simp [hga])
        · skip
          refine AWp_skip ?_
          try simp only [thenQ, blockQ, noGotoQ]
          refine hK39 _ ?_
          try clear hK39 K39
          refine AWp_region ?_
          refine aops_chunk 2 fun C44 hC44 => ?_
          simp only [bL, ↓aops, ↓aop, ↓aWant, ↓aVal, bS, bA, AV.flat, AV.cl, AV.one, Value.oneCell', thenQ, blockQ, noGotoQ, ↓reduceIte, Nat.reduceEqDiff, reduceCtorEq, tyX, hk, getD_map_cells hp, Int.natCast_add, Int.natCast_one, hw, hb1, hb2, List.map_append, List.length_map, List.length_append, hga, hst]
          refine hC44 _ ?_
          try clear hC44 C44
          simp only [bL]
          refine aops_chunk 2 fun C45 hC45 => ?_
          simp only [bL, ↓aops, ↓aop, ↓aWant, ↓aVal, bS, bA, AV.flat, AV.cl, AV.one, Value.oneCell', thenQ, blockQ, noGotoQ, ↓reduceIte, Nat.reduceEqDiff, reduceCtorEq, ↓bs1_1, ↓bs1_2, ↓bs1_3, ↓bs1_4, ↓bs1_5, ↓bs1_6, ↓bs1_7, ↓bs1_8, ↓bs1_9, ↓bs1_10, ↓bs1_11, ↓bs1_12, aBuildSl, ei28, ia3, List.range_succ, List.range_zero, List.forall_mem_cons, List.not_mem_nil, false_imp_iff, implies_true, Nat.reduceAdd, Nat.reduceLeDiff, forall_eq, List.mem_singleton, aAppend, slIn, slAt, slOf, List.length_map, getO, putO, tyX, hk, getD_map_cells hp, Int.natCast_add, Int.natCast_one, hw, hb1, hb2, List.map_append, List.length_append, hga, hst]
          refine hC45 _ ?_
          try clear hC45 C45
          simp only [bL]
          simp only [↓aops, ↓aop, ↓aWant, ↓aVal, bS, bA, AV.flat, AV.cl, AV.one, Value.oneCell', thenQ, blockQ, noGotoQ, ↓reduceIte, Nat.reduceEqDiff, reduceCtorEq, tyX, bL, hk, getD_map_cells hp, Int.natCast_add, Int.natCast_one, hw, hb1, hb2, List.map_append, List.length_map, List.length_append, hga, hst]
          refine hK12 _ ?_
          try clear hK12 K12
          refine AWp_region ?_
          refine aops_chunk 2 fun C46 hC46 => ?_
          simp only [bL, ↓aops, ↓aop, ↓aWant, ↓aVal, bS, bA, AV.flat, AV.cl, AV.one, Value.oneCell', thenQ, blockQ, noGotoQ, ↓reduceIte, Nat.reduceEqDiff, reduceCtorEq, aBin, tyX, hk, getD_map_cells hp, Int.natCast_add, Int.natCast_one, hw, hb1, hb2, List.map_append, List.length_map, List.length_append, hga, hst]
          refine hC46 _ ?_
          try clear hC46 C46
          simp only [bL]
          simp only [↓aops, ↓aop, ↓aWant, ↓aVal, bS, bA, AV.flat, AV.cl, AV.one, Value.oneCell', thenQ, blockQ, noGotoQ, ↓reduceIte, Nat.reduceEqDiff, reduceCtorEq, tyX, bL, hk, getD_map_cells hp, Int.natCast_add, Int.natCast_one, hw, hb1, hb2, List.map_append, List.length_map, List.length_append, hga, hst]
          refine ⟨(s + 1), (by omega), by omega, ?_⟩
          simp only [maskL, setsL, putsO, putO, bA, Nat.reduceEqDiff, ↓reduceIte, hk, getD_map_cells hp, Int.natCast_add, Int.natCast_one, hw, hb1, hb2, List.map_append, bL, List.length_map, List.length_append, hga, hst]
          exact Weak.mk (by simp only [LeL, Le.refl, Le.any, Le.slNil, and_self, Int.natCast_add, Int.cast_ofNat_Int, Int.natCast_one]) (fun _ _ h => h) rfl rfl
  · skip
    have hk : s = ps.length := by simp at hb18; omega
    refine AWp_exit ?_
    simp only [thenQ, blockQ, noGotoQ, bA, Nat.reduceEqDiff, ↓reduceIte]
    refine hK7 _ ?_
    try clear hK7 K7
    subst hk
    rw [List.take_length]
    refine AWp_seqK fun K47 hK47 => ?_
    refine AWp_region ?_
    refine aops_chunk 2 fun C48 hC48 => ?_
    simp only [bL, ↓aops, ↓aop, ↓aWant, ↓aVal, bS, bA, AV.flat, AV.cl, AV.one, Value.oneCell', thenQ, blockQ, noGotoQ, ↓reduceIte, Nat.reduceEqDiff, reduceCtorEq, tyX]
    refine hC48 _ ?_
    try clear hC48 C48
    simp only [bL]
    refine aops_chunk 2 fun C49 hC49 => ?_
    simp only [bL, ↓aops, ↓aop, ↓aWant, ↓aVal, bS, bA, AV.flat, AV.cl, AV.one, Value.oneCell', thenQ, blockQ, noGotoQ, ↓reduceIte, Nat.reduceEqDiff, reduceCtorEq, tyX]
    refine hC49 _ ?_
    try clear hC49 C49
    simp only [bL]
    refine aops_chunk 2 fun C50 hC50 => ?_
    simp only [bL, ↓aops, ↓aop, ↓aWant, ↓aVal, bS, bA, AV.flat, AV.cl, AV.one, Value.oneCell', thenQ, blockQ, noGotoQ, ↓reduceIte, Nat.reduceEqDiff, reduceCtorEq, aBin, pt25, tyX]
    refine hC50 _ ?_
    try clear hC50 C50
    simp only [bL]
    refine aops_chunk 2 fun C51 hC51 => ?_
    simp only [bL, ↓aops, ↓aop, ↓aWant, ↓aVal, bS, bA, AV.flat, AV.cl, AV.one, Value.oneCell', thenQ, blockQ, noGotoQ, ↓reduceIte, Nat.reduceEqDiff, reduceCtorEq, tyX]
    refine hC51 _ ?_
    try clear hC51 C51
    simp only [bL]
    simp only [↓aops, ↓aop, ↓aWant, ↓aVal, bS, bA, AV.flat, AV.cl, AV.one, Value.oneCell', thenQ, blockQ, noGotoQ, ↓reduceIte, Nat.reduceEqDiff, reduceCtorEq, tyX, bL]
    refine hK47 _ ?_
    try clear hK47 K47
    refine AWp_ret ?_
    try simp only [thenQ, blockQ, noGotoQ, retQ, aRes, tupOf, bS, bA]
    refine ⟨_, _, ⟨rfl, rfl⟩, .tup ⟨.ptr (by omega), .data (RNode.dataSl _), .data (dataInts _), .v _ _, trivial⟩, gO_und (by omega) _, Le.tup ⟨.refl _, .refl _, Le.oslL, .refl _, trivial⟩, ⟨1, rfl, rfl⟩, by omega⟩
end Go.Proofs.Ytohdoloalolpfaa
