import Derived.Test.YtohdoloalolpfaaSame
namespace Go.Proofs.Ytohdoloalolpfaa
open Go Go.RowKit
set_option maxRecDepth 100000
set_option maxHeartbeats 1000000
set_option linter.unusedSimpArgs false
set_option linter.unusedVariables false
attribute [local irreducible] aops dRun
def okN (k n : Int) (len : Nat) : Bool :=
  decide ((k = 1 ∧ 0 ≤ n ∧ n < 1073741824 ∧ len = 0) ∨ (n = 0 ∧ (((k = 2 ∨ k = 3) ∧ len = 0) ∨ (k = 4 ∧ len = 2) ∨ (k = 5 ∧ 2 ≤ len ∧ len ≤ 8))))
mutual
def Ty.right : Ty → Bool
  | .mk k n ps => okN k n ps.length && Ty.rightL ps
def Ty.rightL : List Ty → Bool
  | [] => true
  | p :: ps => Ty.right p && Ty.rightL ps
end
theorem Ty.rightL_eq : ∀ ps, Ty.rightL ps = ps.all Ty.right
  | [] => by simp [Ty.rightL]
  | p :: ps => by simp [Ty.rightL, Ty.rightL_eq ps]
theorem Ty.right_eq (t : Ty) : t.right = (okN t.k t.n t.ps.length && t.ps.all Ty.right) := by cases t; simp [Ty.right, Ty.rightL_eq, Ty.k, Ty.n, Ty.ps]
theorem all_true_of {α : Type} {f : α → Bool} {ps : List α} (h : ∀ (i : Nat) (p : α), i < ps.length → ps[i]? = some p → f p = true) : ps.all f = true := by
  rw [List.all_eq_true]
  intro p hp
  obtain ⟨i, hi, e⟩ := List.mem_iff_getElem.1 hp
  exact h i p hi (by rw [List.getElem?_eq_getElem hi, e])
theorem all_false_of {α : Type} {f : α → Bool} {ps : List α} {i : Nat} {p : α} (hp : ps[i]? = some p) (h : f p = false) : ps.all f = false := by
  rw [← Bool.not_eq_true, List.all_eq_true]
  intro hh
  have := hh p (List.mem_of_getElem? hp)
  rw [h] at this; cases this
theorem RefRight_pure : ∀ (T : Ty), APure Try.prog 19 [.agg T.cells] (.v (.bool T.right)) := by
  refine Ty.ind fun T ih => ?_
  refine APure.mkL (.cons T.dataAgg .nil) (.v _) ?_
  refine ACalls_intro Try.func19 (by kernel_rfl) rfl (by rw [Try.ntmps19]; simp) (fun hm => ?_)
  simp only [Try.ntmps19, Try.results19, List.length_cons, List.length_nil, Nat.reduceAdd, Nat.reduceSub, List.replicate_succ, List.replicate_zero, List.cons_append, List.nil_append]
  have hm1 := hm.wide (t := T) (by simp)
  refine AWp_seqK fun K1 hK1 => ?_
  refine AWp_region ?_
  simp only [↓aops, ↓aop, ↓aWant, ↓aVal, bS, bA, AV.flat, AV.cl, AV.one, Value.oneCell', thenQ, blockQ, noGotoQ, ↓reduceIte, Nat.reduceEqDiff, reduceCtorEq, tyX]
  refine hK1 _ ?_
  try clear hK1 K1
  refine AWp_seqK fun K2 hK2 => ?_
  refine AWp_region ?_
  refine aops_chunk 2 fun C3 hC3 => ?_
  simp only [bL, ↓aops, ↓aop, ↓aWant, ↓aVal, bS, bA, AV.flat, AV.cl, AV.one, Value.oneCell', thenQ, blockQ, noGotoQ, ↓reduceIte, Nat.reduceEqDiff, reduceCtorEq, aField, fo32_2, Nat.reduceAdd, aLoad, ti22, getO, pack, Nat.reduceLeDiff, tyX]
  refine hC3 _ ?_
  try clear hC3 C3
  simp only [bL]
  simp only [↓aops, ↓aop, ↓aWant, ↓aVal, bS, bA, AV.flat, AV.cl, AV.one, Value.oneCell', thenQ, blockQ, noGotoQ, ↓reduceIte, Nat.reduceEqDiff, reduceCtorEq, getO, aLenX, aLen, ln22, List.length_map, tyX]
  refine hK2 _ ?_
  try clear hK2 K2
  refine AWp_seqK fun K4 hK4 => ?_
  refine AWp_block ?_
  refine AWp_joinM [false, true, false, true, false, false, false, false, true, false, false, false, false, false, false, false, false, false, false, false, false, false, false, false, false, false, false, false, false, false, false, false, false, false, false, false, false, false, false, false, false, false, false, false, false, false, false, false, false, false, false, false, false, false, false, false, false, false, false, false, false, false, false, false, false, false, false, false, false, false, false, false, false, false, false, false, false, false, false, false, false, false, false, false, false, false, false, false, false] ([(8, .v (.bool (decide (T.k = 1 ∧ (T.n < 0 ∨ 1073741824 ≤ T.n ∨ 0 < T.ps.length)))))]) ([]) ?_ ?_
  · skip
    refine AWp_region ?_
    refine aops_chunk 2 fun C5 hC5 => ?_
    simp only [bL, ↓aops, ↓aop, ↓aWant, ↓aVal, bS, bA, AV.flat, AV.cl, AV.one, Value.oneCell', thenQ, blockQ, noGotoQ, ↓reduceIte, Nat.reduceEqDiff, reduceCtorEq, aField, fo32_0, Nat.reduceAdd, aLoad, ti3, getO, pack, Nat.reduceLeDiff, tyX]
    refine hC5 _ ?_
    try clear hC5 C5
    simp only [bL]
    refine aops_chunk 2 fun C6 hC6 => ?_
    simp only [bL, ↓aops, ↓aop, ↓aWant, ↓aVal, bS, bA, AV.flat, AV.cl, AV.one, Value.oneCell', thenQ, blockQ, noGotoQ, ↓reduceIte, Nat.reduceEqDiff, reduceCtorEq, aBin, tyX]
    refine hC6 _ ?_
    try clear hC6 C6
    simp only [bL]
    refine aops_case 12 rfl (fun hc12 => ?_) (fun hc12 => ?_)
    · simp only [List.set_cons_zero, List.set_cons_succ]
      refine aops_chunk 2 fun C7 hC7 => ?_
      simp only [bL, ↓aops, ↓aop, ↓aWant, ↓aVal, bS, bA, AV.flat, AV.cl, AV.one, Value.oneCell', thenQ, blockQ, noGotoQ, ↓reduceIte, Nat.reduceEqDiff, reduceCtorEq, undef, aField, fo32_1, Nat.reduceAdd, aLoad, ti3, getO, pack, Nat.reduceLeDiff, tyX]
      refine hC7 _ ?_
      try clear hC7 C7
      simp only [bL]
      refine aops_chunk 2 fun C8 hC8 => ?_
      simp only [bL, ↓aops, ↓aop, ↓aWant, ↓aVal, bS, bA, AV.flat, AV.cl, AV.one, Value.oneCell', thenQ, blockQ, noGotoQ, ↓reduceIte, Nat.reduceEqDiff, reduceCtorEq, undef, aBin, tyX]
      refine hC8 _ ?_
      try clear hC8 C8
      simp only [bL]
      refine aops_case 16 rfl (fun hc16 => ?_) (fun hc16 => ?_)
      · simp only [List.set_cons_zero, List.set_cons_succ]
        refine aops_chunk 2 fun C9 hC9 => ?_
        simp only [bL, ↓aops, ↓aop, ↓aWant, ↓aVal, bS, bA, AV.flat, AV.cl, AV.one, Value.oneCell', thenQ, blockQ, noGotoQ, ↓reduceIte, Nat.reduceEqDiff, reduceCtorEq, undef, aField, fo32_1, Nat.reduceAdd, aLoad, ti3, getO, pack, Nat.reduceLeDiff, tyX]
        refine hC9 _ ?_
        try clear hC9 C9
        simp only [bL]
        refine aops_chunk 2 fun C10 hC10 => ?_
        simp only [bL, ↓aops, ↓aop, ↓aWant, ↓aVal, bS, bA, AV.flat, AV.cl, AV.one, Value.oneCell', thenQ, blockQ, noGotoQ, ↓reduceIte, Nat.reduceEqDiff, reduceCtorEq, undef, aBin, aBool, tyX]
        refine hC10 _ ?_
        try clear hC10 C10
        simp only [bL]
        refine aops_chunk 2 fun C11 hC11 => ?_
        simp only [bL, ↓aops, ↓aop, ↓aWant, ↓aVal, bS, bA, AV.flat, AV.cl, AV.one, Value.oneCell', thenQ, blockQ, noGotoQ, ↓reduceIte, Nat.reduceEqDiff, reduceCtorEq, undef, tyX]
        refine hC11 _ ?_
        try clear hC11 C11
        simp only [bL]
        refine aops_chunk 2 fun C12 hC12 => ?_
        simp only [bL, ↓aops, ↓aop, ↓aWant, ↓aVal, bS, bA, AV.flat, AV.cl, AV.one, Value.oneCell', thenQ, blockQ, noGotoQ, ↓reduceIte, Nat.reduceEqDiff, reduceCtorEq, undef, aBin, aBool, tyX]
        refine hC12 _ ?_
        try clear hC12 C12
        simp only [bL]
        simp only [↓aops, ↓aop, ↓aWant, ↓aVal, bS, bA, AV.flat, AV.cl, AV.one, Value.oneCell', thenQ, blockQ, noGotoQ, ↓reduceIte, Nat.reduceEqDiff, reduceCtorEq, aBool, tyX]
        try simp only [maskL, setsL, putsO, putO, bA, Nat.reduceEqDiff, ↓reduceIte]
        refine Weak.mk ?_ (fun _ _ h => h) rfl rfl
        simp only [LeL, Le.refl, Le.any, and_self, and_true, true_and]
        all_goals (refine Le.of_eq (congrArg (fun b => AV.v (.bool b)) ?_); rw [Bool.eq_iff_iff]; simp at *; omega)
      · simp only [List.set_cons_zero, List.set_cons_succ]
        refine aops_chunk 2 fun C13 hC13 => ?_
        simp only [bL, ↓aops, ↓aop, ↓aWant, ↓aVal, bS, bA, AV.flat, AV.cl, AV.one, Value.oneCell', thenQ, blockQ, noGotoQ, ↓reduceIte, Nat.reduceEqDiff, reduceCtorEq, undef, aField, fo32_1, Nat.reduceAdd, aLoad, ti3, getO, pack, Nat.reduceLeDiff, tyX]
        refine hC13 _ ?_
        try clear hC13 C13
        simp only [bL]
        refine aops_chunk 2 fun C14 hC14 => ?_
        simp only [bL, ↓aops, ↓aop, ↓aWant, ↓aVal, bS, bA, AV.flat, AV.cl, AV.one, Value.oneCell', thenQ, blockQ, noGotoQ, ↓reduceIte, Nat.reduceEqDiff, reduceCtorEq, undef, aBin, aBool, tyX]
        refine hC14 _ ?_
        try clear hC14 C14
        simp only [bL]
        refine aops_chunk 1 fun C15 hC15 => ?_
        simp only [bL, ↓aops, ↓aop, ↓aWant, ↓aVal, bS, bA, AV.flat, AV.cl, AV.one, Value.oneCell', thenQ, blockQ, noGotoQ, ↓reduceIte, Nat.reduceEqDiff, reduceCtorEq, undef, tyX]
        refine hC15 _ ?_
        try clear hC15 C15
        simp only [bL]
        refine aops_case 21 rfl (fun hc21 => ?_) (fun hc21 => ?_)
        · simp only [List.set_cons_zero, List.set_cons_succ]
          refine aops_chunk 2 fun C16 hC16 => ?_
          simp only [bL, ↓aops, ↓aop, ↓aWant, ↓aVal, bS, bA, AV.flat, AV.cl, AV.one, Value.oneCell', thenQ, blockQ, noGotoQ, ↓reduceIte, Nat.reduceEqDiff, reduceCtorEq, undef, aBin, tyX]
          refine hC16 _ ?_
          try clear hC16 C16
          simp only [bL]
          refine aops_chunk 2 fun C17 hC17 => ?_
          simp only [bL, ↓aops, ↓aop, ↓aWant, ↓aVal, bS, bA, AV.flat, AV.cl, AV.one, Value.oneCell', thenQ, blockQ, noGotoQ, ↓reduceIte, Nat.reduceEqDiff, reduceCtorEq, undef, aBool, tyX]
          refine hC17 _ ?_
          try clear hC17 C17
          simp only [bL]
          simp only [↓aops, ↓aop, ↓aWant, ↓aVal, bS, bA, AV.flat, AV.cl, AV.one, Value.oneCell', thenQ, blockQ, noGotoQ, ↓reduceIte, Nat.reduceEqDiff, reduceCtorEq, tyX]
          try simp only [maskL, setsL, putsO, putO, bA, Nat.reduceEqDiff, ↓reduceIte]
          refine Weak.mk ?_ (fun _ _ h => h) rfl rfl
          simp only [LeL, Le.refl, Le.any, and_self, and_true, true_and]
          all_goals (refine Le.of_eq (congrArg (fun b => AV.v (.bool b)) ?_); rw [Bool.eq_iff_iff]; simp at *; omega)
        · simp only [List.set_cons_zero, List.set_cons_succ]
          refine aops_chunk 2 fun C18 hC18 => ?_
          simp only [bL, ↓aops, ↓aop, ↓aWant, ↓aVal, bS, bA, AV.flat, AV.cl, AV.one, Value.oneCell', thenQ, blockQ, noGotoQ, ↓reduceIte, Nat.reduceEqDiff, reduceCtorEq, undef, aBin, tyX]
          refine hC18 _ ?_
          try clear hC18 C18
          simp only [bL]
          refine aops_chunk 2 fun C19 hC19 => ?_
          simp only [bL, ↓aops, ↓aop, ↓aWant, ↓aVal, bS, bA, AV.flat, AV.cl, AV.one, Value.oneCell', thenQ, blockQ, noGotoQ, ↓reduceIte, Nat.reduceEqDiff, reduceCtorEq, undef, aBool, tyX]
          refine hC19 _ ?_
          try clear hC19 C19
          simp only [bL]
          simp only [↓aops, ↓aop, ↓aWant, ↓aVal, bS, bA, AV.flat, AV.cl, AV.one, Value.oneCell', thenQ, blockQ, noGotoQ, ↓reduceIte, Nat.reduceEqDiff, reduceCtorEq, tyX]
          try simp only [maskL, setsL, putsO, putO, bA, Nat.reduceEqDiff, ↓reduceIte]
          refine Weak.mk ?_ (fun _ _ h => h) rfl rfl
          simp only [LeL, Le.refl, Le.any, and_self, and_true, true_and]
          all_goals (refine Le.of_eq (congrArg (fun b => AV.v (.bool b)) ?_); rw [Bool.eq_iff_iff]; simp at *; omega)
    · simp only [List.set_cons_zero, List.set_cons_succ]
      refine aops_chunk 2 fun C20 hC20 => ?_
      simp only [bL, ↓aops, ↓aop, ↓aWant, ↓aVal, bS, bA, AV.flat, AV.cl, AV.one, Value.oneCell', thenQ, blockQ, noGotoQ, ↓reduceIte, Nat.reduceEqDiff, reduceCtorEq, undef, aField, fo32_1, Nat.reduceAdd, aLoad, ti3, getO, pack, Nat.reduceLeDiff, tyX]
      refine hC20 _ ?_
      try clear hC20 C20
      simp only [bL]
      refine aops_chunk 3 fun C21 hC21 => ?_
      simp only [bL, ↓aops, ↓aop, ↓aWant, ↓aVal, bS, bA, AV.flat, AV.cl, AV.one, Value.oneCell', thenQ, blockQ, noGotoQ, ↓reduceIte, Nat.reduceEqDiff, reduceCtorEq, undef, aBin, aField, fo32_1, Nat.reduceAdd, tyX]
      refine hC21 _ ?_
      try clear hC21 C21
      simp only [bL]
      refine aops_chunk 2 fun C22 hC22 => ?_
      simp only [bL, ↓aops, ↓aop, ↓aWant, ↓aVal, bS, bA, AV.flat, AV.cl, AV.one, Value.oneCell', thenQ, blockQ, noGotoQ, ↓reduceIte, Nat.reduceEqDiff, reduceCtorEq, undef, aLoad, ti3, getO, pack, Nat.reduceAdd, Nat.reduceLeDiff, aBin, tyX]
      refine hC22 _ ?_
      try clear hC22 C22
      simp only [bL]
      refine aops_chunk 3 fun C23 hC23 => ?_
      simp only [bL, ↓aops, ↓aop, ↓aWant, ↓aVal, bS, bA, AV.flat, AV.cl, AV.one, Value.oneCell', thenQ, blockQ, noGotoQ, ↓reduceIte, Nat.reduceEqDiff, reduceCtorEq, undef, aBool, tyX]
      refine hC23 _ ?_
      try clear hC23 C23
      simp only [bL]
      refine aops_chunk 2 fun C24 hC24 => ?_
      simp only [bL, ↓aops, ↓aop, ↓aWant, ↓aVal, bS, bA, AV.flat, AV.cl, AV.one, Value.oneCell', thenQ, blockQ, noGotoQ, ↓reduceIte, Nat.reduceEqDiff, reduceCtorEq, undef, aBin, aBool, tyX]
      refine hC24 _ ?_
      try clear hC24 C24
      simp only [bL]
      simp only [↓aops, ↓aop, ↓aWant, ↓aVal, bS, bA, AV.flat, AV.cl, AV.one, Value.oneCell', thenQ, blockQ, noGotoQ, ↓reduceIte, Nat.reduceEqDiff, reduceCtorEq, aBool, tyX]
      try simp only [maskL, setsL, putsO, putO, bA, Nat.reduceEqDiff, ↓reduceIte]
      refine Weak.mk ?_ (fun _ _ h => h) rfl rfl
      simp only [LeL, Le.refl, Le.any, and_self, and_true, true_and]
      all_goals (refine Le.of_eq (congrArg (fun b => AV.v (.bool b)) ?_); rw [Bool.eq_iff_iff]; simp at *; omega)
  simp only [maskL, setsL, putsO, putO, bA, Nat.reduceEqDiff, ↓reduceIte]
  refine AWp_cond rfl (fun hb8 => ?_) (fun hb8 => ?_)
  · skip
    refine AWp_seqK fun K25 hK25 => ?_
    refine AWp_region ?_
    simp only [↓aops, ↓aop, ↓aWant, ↓aVal, bS, bA, AV.flat, AV.cl, AV.one, Value.oneCell', thenQ, blockQ, noGotoQ, ↓reduceIte, Nat.reduceEqDiff, reduceCtorEq, tyX]
    refine hK25 _ ?_
    try clear hK25 K25
    refine AWp_ret ?_
    try simp only [thenQ, blockQ, noGotoQ, retQ, aRes, tupOf, bS, bA]
    refine Le.of_eq ?_
    rw [Ty.right_eq]
    all_goals try simp only [decide_eq_true_eq, decide_eq_false_iff_not] at hb8
    all_goals try simp only [decide_eq_true_eq, decide_eq_false_iff_not] at hb26
    all_goals try simp only [decide_eq_true_eq, decide_eq_false_iff_not] at hb35
    all_goals try simp only [decide_eq_true_eq, decide_eq_false_iff_not] at hb48
    all_goals try simp only [decide_eq_true_eq, decide_eq_false_iff_not] at hb56
    all_goals try simp only [decide_eq_true_eq, decide_eq_false_iff_not] at hb68
    first | (have e1 : okN T.k T.n T.ps.length = false := (by simp only [okN, decide_eq_false_iff_not]; omega); rw [e1]; rfl) | (rw [all_false_of hp (by simpa using hb88)]; simp; done) | (have e1 : okN T.k T.n T.ps.length = true := (by simp only [okN, decide_eq_true_eq]; omega); rw [e1, all_true_of (f := Ty.right) (fun i p hi h1 => hs.2 i p (by omega) h1)]; rfl)
  · skip
    refine AWp_joinM [false, true, false, true, false, false, false, false, false, false, false, false, false, false, false, false, false, false, false, false, false, false, false, false, false, false, true, false, false, false, false, false, false, false, false, false, false, false, false, false, false, false, false, false, false, false, false, false, false, false, false, false, false, false, false, false, false, false, false, false, false, false, false, false, false, false, false, false, false, false, false, false, false, false, false, false, false, false, false, false, false, false, false, false, false, false, false, false, false] ([(26, .v (.bool (decide (T.k ≠ 1 ∧ T.n ≠ 0))))]) ([]) ?_ ?_
    · skip
      refine AWp_region ?_
      refine aops_chunk 2 fun C26 hC26 => ?_
      simp only [bL, ↓aops, ↓aop, ↓aWant, ↓aVal, bS, bA, AV.flat, AV.cl, AV.one, Value.oneCell', thenQ, blockQ, noGotoQ, ↓reduceIte, Nat.reduceEqDiff, reduceCtorEq, aField, fo32_0, Nat.reduceAdd, aLoad, ti3, getO, pack, Nat.reduceLeDiff, tyX]
      refine hC26 _ ?_
      try clear hC26 C26
      simp only [bL]
      refine aops_chunk 2 fun C27 hC27 => ?_
      simp only [bL, ↓aops, ↓aop, ↓aWant, ↓aVal, bS, bA, AV.flat, AV.cl, AV.one, Value.oneCell', thenQ, blockQ, noGotoQ, ↓reduceIte, Nat.reduceEqDiff, reduceCtorEq, aBin, tyX]
      refine hC27 _ ?_
      try clear hC27 C27
      simp only [bL]
      refine aops_case 30 rfl (fun hc30 => ?_) (fun hc30 => ?_)
      · simp only [List.set_cons_zero, List.set_cons_succ]
        refine aops_chunk 2 fun C28 hC28 => ?_
        simp only [bL, ↓aops, ↓aop, ↓aWant, ↓aVal, bS, bA, AV.flat, AV.cl, AV.one, Value.oneCell', thenQ, blockQ, noGotoQ, ↓reduceIte, Nat.reduceEqDiff, reduceCtorEq, undef, aField, fo32_1, Nat.reduceAdd, aLoad, ti3, getO, pack, Nat.reduceLeDiff, tyX]
        refine hC28 _ ?_
        try clear hC28 C28
        simp only [bL]
        refine aops_chunk 2 fun C29 hC29 => ?_
        simp only [bL, ↓aops, ↓aop, ↓aWant, ↓aVal, bS, bA, AV.flat, AV.cl, AV.one, Value.oneCell', thenQ, blockQ, noGotoQ, ↓reduceIte, Nat.reduceEqDiff, reduceCtorEq, undef, aBin, aBool, tyX]
        refine hC29 _ ?_
        try clear hC29 C29
        simp only [bL]
        simp only [↓aops, ↓aop, ↓aWant, ↓aVal, bS, bA, AV.flat, AV.cl, AV.one, Value.oneCell', thenQ, blockQ, noGotoQ, ↓reduceIte, Nat.reduceEqDiff, reduceCtorEq, tyX]
        try simp only [maskL, setsL, putsO, putO, bA, Nat.reduceEqDiff, ↓reduceIte]
        refine Weak.mk ?_ (fun _ _ h => h) rfl rfl
        simp only [LeL, Le.refl, Le.any, and_self, and_true, true_and]
        all_goals (refine Le.of_eq (congrArg (fun b => AV.v (.bool b)) ?_); rw [Bool.eq_iff_iff]; simp at *; omega)
      · simp only [List.set_cons_zero, List.set_cons_succ]
        refine aops_chunk 2 fun C30 hC30 => ?_
        simp only [bL, ↓aops, ↓aop, ↓aWant, ↓aVal, bS, bA, AV.flat, AV.cl, AV.one, Value.oneCell', thenQ, blockQ, noGotoQ, ↓reduceIte, Nat.reduceEqDiff, reduceCtorEq, undef, aField, fo32_1, Nat.reduceAdd, aLoad, ti3, getO, pack, Nat.reduceLeDiff, tyX]
        refine hC30 _ ?_
        try clear hC30 C30
        simp only [bL]
        refine aops_chunk 2 fun C31 hC31 => ?_
        simp only [bL, ↓aops, ↓aop, ↓aWant, ↓aVal, bS, bA, AV.flat, AV.cl, AV.one, Value.oneCell', thenQ, blockQ, noGotoQ, ↓reduceIte, Nat.reduceEqDiff, reduceCtorEq, undef, aBin, aBool, tyX]
        refine hC31 _ ?_
        try clear hC31 C31
        simp only [bL]
        simp only [↓aops, ↓aop, ↓aWant, ↓aVal, bS, bA, AV.flat, AV.cl, AV.one, Value.oneCell', thenQ, blockQ, noGotoQ, ↓reduceIte, Nat.reduceEqDiff, reduceCtorEq, tyX]
        try simp only [maskL, setsL, putsO, putO, bA, Nat.reduceEqDiff, ↓reduceIte]
        refine Weak.mk ?_ (fun _ _ h => h) rfl rfl
        simp only [LeL, Le.refl, Le.any, and_self, and_true, true_and]
        all_goals (refine Le.of_eq (congrArg (fun b => AV.v (.bool b)) ?_); rw [Bool.eq_iff_iff]; simp at *; omega)
    simp only [maskL, setsL, putsO, putO, bA, Nat.reduceEqDiff, ↓reduceIte]
    refine AWp_cond rfl (fun hb26 => ?_) (fun hb26 => ?_)
    · skip
      refine AWp_seqK fun K32 hK32 => ?_
      refine AWp_region ?_
      simp only [↓aops, ↓aop, ↓aWant, ↓aVal, bS, bA, AV.flat, AV.cl, AV.one, Value.oneCell', thenQ, blockQ, noGotoQ, ↓reduceIte, Nat.reduceEqDiff, reduceCtorEq, tyX]
      refine hK32 _ ?_
      try clear hK32 K32
      refine AWp_ret ?_
      try simp only [thenQ, blockQ, noGotoQ, retQ, aRes, tupOf, bS, bA]
      refine Le.of_eq ?_
      rw [Ty.right_eq]
      all_goals try simp only [decide_eq_true_eq, decide_eq_false_iff_not] at hb8
      all_goals try simp only [decide_eq_true_eq, decide_eq_false_iff_not] at hb26
      all_goals try simp only [decide_eq_true_eq, decide_eq_false_iff_not] at hb35
      all_goals try simp only [decide_eq_true_eq, decide_eq_false_iff_not] at hb48
      all_goals try simp only [decide_eq_true_eq, decide_eq_false_iff_not] at hb56
      all_goals try simp only [decide_eq_true_eq, decide_eq_false_iff_not] at hb68
      first | (have e1 : okN T.k T.n T.ps.length = false := (by simp only [okN, decide_eq_false_iff_not]; omega); rw [e1]; rfl) | (rw [all_false_of hp (by simpa using hb88)]; simp; done) | (have e1 : okN T.k T.n T.ps.length = true := (by simp only [okN, decide_eq_true_eq]; omega); rw [e1, all_true_of (f := Ty.right) (fun i p hi h1 => hs.2 i p (by omega) h1)]; rfl)
    · skip
      refine AWp_joinM [false, true, false, true, false, false, false, false, false, false, false, false, false, false, false, false, false, false, false, false, false, false, false, false, false, false, false, false, false, false, false, false, false, false, false, true, false, false, false, false, false, false, false, false, false, false, false, false, false, false, false, false, false, false, false, false, false, false, false, false, false, false, false, false, false, false, false, false, false, false, false, false, false, false, false, false, false, false, false, false, false, false, false, false, false, false, false, false, false] ([(35, .v (.bool (decide ((T.k = 2 ∨ T.k = 3) ∧ 0 < T.ps.length))))]) ([]) ?_ ?_
      · skip
        refine AWp_region ?_
        refine aops_chunk 2 fun C33 hC33 => ?_
        simp only [bL, ↓aops, ↓aop, ↓aWant, ↓aVal, bS, bA, AV.flat, AV.cl, AV.one, Value.oneCell', thenQ, blockQ, noGotoQ, ↓reduceIte, Nat.reduceEqDiff, reduceCtorEq, aField, fo32_0, Nat.reduceAdd, aLoad, ti3, getO, pack, Nat.reduceLeDiff, tyX]
        refine hC33 _ ?_
        try clear hC33 C33
        simp only [bL]
        refine aops_chunk 2 fun C34 hC34 => ?_
        simp only [bL, ↓aops, ↓aop, ↓aWant, ↓aVal, bS, bA, AV.flat, AV.cl, AV.one, Value.oneCell', thenQ, blockQ, noGotoQ, ↓reduceIte, Nat.reduceEqDiff, reduceCtorEq, aBin, tyX]
        refine hC34 _ ?_
        try clear hC34 C34
        simp only [bL]
        refine aops_case 39 rfl (fun hc39 => ?_) (fun hc39 => ?_)
        · simp only [List.set_cons_zero, List.set_cons_succ]
          refine aops_chunk 2 fun C35 hC35 => ?_
          simp only [bL, ↓aops, ↓aop, ↓aWant, ↓aVal, bS, bA, AV.flat, AV.cl, AV.one, Value.oneCell', thenQ, blockQ, noGotoQ, ↓reduceIte, Nat.reduceEqDiff, reduceCtorEq, undef, aField, fo32_0, Nat.reduceAdd, aLoad, ti3, getO, pack, Nat.reduceLeDiff, tyX]
          refine hC35 _ ?_
          try clear hC35 C35
          simp only [bL]
          refine aops_chunk 2 fun C36 hC36 => ?_
          simp only [bL, ↓aops, ↓aop, ↓aWant, ↓aVal, bS, bA, AV.flat, AV.cl, AV.one, Value.oneCell', thenQ, blockQ, noGotoQ, ↓reduceIte, Nat.reduceEqDiff, reduceCtorEq, undef, aBin, aBool, tyX]
          refine hC36 _ ?_
          try clear hC36 C36
          simp only [bL]
          refine aops_chunk 2 fun C37 hC37 => ?_
          simp only [bL, ↓aops, ↓aop, ↓aWant, ↓aVal, bS, bA, AV.flat, AV.cl, AV.one, Value.oneCell', thenQ, blockQ, noGotoQ, ↓reduceIte, Nat.reduceEqDiff, reduceCtorEq, undef, tyX]
          refine hC37 _ ?_
          try clear hC37 C37
          simp only [bL]
          refine aops_chunk 2 fun C38 hC38 => ?_
          simp only [bL, ↓aops, ↓aop, ↓aWant, ↓aVal, bS, bA, AV.flat, AV.cl, AV.one, Value.oneCell', thenQ, blockQ, noGotoQ, ↓reduceIte, Nat.reduceEqDiff, reduceCtorEq, undef, aBin, aBool, tyX]
          refine hC38 _ ?_
          try clear hC38 C38
          simp only [bL]
          simp only [↓aops, ↓aop, ↓aWant, ↓aVal, bS, bA, AV.flat, AV.cl, AV.one, Value.oneCell', thenQ, blockQ, noGotoQ, ↓reduceIte, Nat.reduceEqDiff, reduceCtorEq, tyX]
          try simp only [maskL, setsL, putsO, putO, bA, Nat.reduceEqDiff, ↓reduceIte]
          refine Weak.mk ?_ (fun _ _ h => h) rfl rfl
          simp only [LeL, Le.refl, Le.any, and_self, and_true, true_and]
          all_goals (refine Le.of_eq (congrArg (fun b => AV.v (.bool b)) ?_); rw [Bool.eq_iff_iff]; simp at *; omega)
        · simp only [List.set_cons_zero, List.set_cons_succ]
          refine aops_chunk 2 fun C39 hC39 => ?_
          simp only [bL, ↓aops, ↓aop, ↓aWant, ↓aVal, bS, bA, AV.flat, AV.cl, AV.one, Value.oneCell', thenQ, blockQ, noGotoQ, ↓reduceIte, Nat.reduceEqDiff, reduceCtorEq, undef, aField, fo32_0, Nat.reduceAdd, aLoad, ti3, getO, pack, Nat.reduceLeDiff, tyX]
          refine hC39 _ ?_
          try clear hC39 C39
          simp only [bL]
          refine aops_chunk 2 fun C40 hC40 => ?_
          simp only [bL, ↓aops, ↓aop, ↓aWant, ↓aVal, bS, bA, AV.flat, AV.cl, AV.one, Value.oneCell', thenQ, blockQ, noGotoQ, ↓reduceIte, Nat.reduceEqDiff, reduceCtorEq, undef, aBin, aBool, tyX]
          refine hC40 _ ?_
          try clear hC40 C40
          simp only [bL]
          refine aops_chunk 1 fun C41 hC41 => ?_
          simp only [bL, ↓aops, ↓aop, ↓aWant, ↓aVal, bS, bA, AV.flat, AV.cl, AV.one, Value.oneCell', thenQ, blockQ, noGotoQ, ↓reduceIte, Nat.reduceEqDiff, reduceCtorEq, tyX]
          refine hC41 _ ?_
          try clear hC41 C41
          simp only [bL]
          refine aops_case 44 rfl (fun hc44 => ?_) (fun hc44 => ?_)
          · simp only [List.set_cons_zero, List.set_cons_succ]
            refine aops_chunk 2 fun C42 hC42 => ?_
            simp only [bL, ↓aops, ↓aop, ↓aWant, ↓aVal, bS, bA, AV.flat, AV.cl, AV.one, Value.oneCell', thenQ, blockQ, noGotoQ, ↓reduceIte, Nat.reduceEqDiff, reduceCtorEq, undef, aBin, tyX]
            refine hC42 _ ?_
            try clear hC42 C42
            simp only [bL]
            simp only [↓aops, ↓aop, ↓aWant, ↓aVal, bS, bA, AV.flat, AV.cl, AV.one, Value.oneCell', thenQ, blockQ, noGotoQ, ↓reduceIte, Nat.reduceEqDiff, reduceCtorEq, aBool, tyX]
            try simp only [maskL, setsL, putsO, putO, bA, Nat.reduceEqDiff, ↓reduceIte]
            refine Weak.mk ?_ (fun _ _ h => h) rfl rfl
            simp only [LeL, Le.refl, Le.any, and_self, and_true, true_and]
            all_goals (refine Le.of_eq (congrArg (fun b => AV.v (.bool b)) ?_); rw [Bool.eq_iff_iff]; simp at *; omega)
          · simp only [List.set_cons_zero, List.set_cons_succ]
            refine aops_chunk 2 fun C43 hC43 => ?_
            simp only [bL, ↓aops, ↓aop, ↓aWant, ↓aVal, bS, bA, AV.flat, AV.cl, AV.one, Value.oneCell', thenQ, blockQ, noGotoQ, ↓reduceIte, Nat.reduceEqDiff, reduceCtorEq, undef, aBin, tyX]
            refine hC43 _ ?_
            try clear hC43 C43
            simp only [bL]
            simp only [↓aops, ↓aop, ↓aWant, ↓aVal, bS, bA, AV.flat, AV.cl, AV.one, Value.oneCell', thenQ, blockQ, noGotoQ, ↓reduceIte, Nat.reduceEqDiff, reduceCtorEq, aBool, tyX]
            try simp only [maskL, setsL, putsO, putO, bA, Nat.reduceEqDiff, ↓reduceIte]
            refine Weak.mk ?_ (fun _ _ h => h) rfl rfl
            simp only [LeL, Le.refl, Le.any, and_self, and_true, true_and]
            all_goals (refine Le.of_eq (congrArg (fun b => AV.v (.bool b)) ?_); rw [Bool.eq_iff_iff]; simp at *; omega)
      simp only [maskL, setsL, putsO, putO, bA, Nat.reduceEqDiff, ↓reduceIte]
      refine AWp_cond rfl (fun hb35 => ?_) (fun hb35 => ?_)
      · skip
        refine AWp_seqK fun K44 hK44 => ?_
        refine AWp_region ?_
        simp only [↓aops, ↓aop, ↓aWant, ↓aVal, bS, bA, AV.flat, AV.cl, AV.one, Value.oneCell', thenQ, blockQ, noGotoQ, ↓reduceIte, Nat.reduceEqDiff, reduceCtorEq, tyX]
        refine hK44 _ ?_
        try clear hK44 K44
        refine AWp_ret ?_
        try simp only [thenQ, blockQ, noGotoQ, retQ, aRes, tupOf, bS, bA]
        refine Le.of_eq ?_
        rw [Ty.right_eq]
        all_goals try simp only [decide_eq_true_eq, decide_eq_false_iff_not] at hb8
        all_goals try simp only [decide_eq_true_eq, decide_eq_false_iff_not] at hb26
        all_goals try simp only [decide_eq_true_eq, decide_eq_false_iff_not] at hb35
        all_goals try simp only [decide_eq_true_eq, decide_eq_false_iff_not] at hb48
        all_goals try simp only [decide_eq_true_eq, decide_eq_false_iff_not] at hb56
        all_goals try simp only [decide_eq_true_eq, decide_eq_false_iff_not] at hb68
        first | (have e1 : okN T.k T.n T.ps.length = false := (by simp only [okN, decide_eq_false_iff_not]; omega); rw [e1]; rfl) | (rw [all_false_of hp (by simpa using hb88)]; simp; done) | (have e1 : okN T.k T.n T.ps.length = true := (by simp only [okN, decide_eq_true_eq]; omega); rw [e1, all_true_of (f := Ty.right) (fun i p hi h1 => hs.2 i p (by omega) h1)]; rfl)
      · skip
        refine AWp_joinM [false, true, false, true, false, false, false, false, false, false, false, false, false, false, false, false, false, false, false, false, false, false, false, false, false, false, false, false, false, false, false, false, false, false, false, false, false, false, false, false, false, false, false, false, false, false, false, false, true, false, false, false, false, false, false, false, false, false, false, false, false, false, false, false, false, false, false, false, false, false, false, false, false, false, false, false, false, false, false, false, false, false, false, false, false, false, false, false, false] ([(48, .v (.bool (decide (T.k = 4 ∧ T.ps.length ≠ 2))))]) ([]) ?_ ?_
        · skip
          refine AWp_region ?_
          refine aops_chunk 2 fun C45 hC45 => ?_
          simp only [bL, ↓aops, ↓aop, ↓aWant, ↓aVal, bS, bA, AV.flat, AV.cl, AV.one, Value.oneCell', thenQ, blockQ, noGotoQ, ↓reduceIte, Nat.reduceEqDiff, reduceCtorEq, aField, fo32_0, Nat.reduceAdd, aLoad, ti3, getO, pack, Nat.reduceLeDiff, tyX]
          refine hC45 _ ?_
          try clear hC45 C45
          simp only [bL]
          refine aops_chunk 2 fun C46 hC46 => ?_
          simp only [bL, ↓aops, ↓aop, ↓aWant, ↓aVal, bS, bA, AV.flat, AV.cl, AV.one, Value.oneCell', thenQ, blockQ, noGotoQ, ↓reduceIte, Nat.reduceEqDiff, reduceCtorEq, aBin, tyX]
          refine hC46 _ ?_
          try clear hC46 C46
          simp only [bL]
          refine aops_case 52 rfl (fun hc52 => ?_) (fun hc52 => ?_)
          · simp only [List.set_cons_zero, List.set_cons_succ]
            refine aops_chunk 2 fun C47 hC47 => ?_
            simp only [bL, ↓aops, ↓aop, ↓aWant, ↓aVal, bS, bA, AV.flat, AV.cl, AV.one, Value.oneCell', thenQ, blockQ, noGotoQ, ↓reduceIte, Nat.reduceEqDiff, reduceCtorEq, undef, aBin, tyX]
            refine hC47 _ ?_
            try clear hC47 C47
            simp only [bL]
            simp only [↓aops, ↓aop, ↓aWant, ↓aVal, bS, bA, AV.flat, AV.cl, AV.one, Value.oneCell', thenQ, blockQ, noGotoQ, ↓reduceIte, Nat.reduceEqDiff, reduceCtorEq, aBool, tyX]
            try simp only [maskL, setsL, putsO, putO, bA, Nat.reduceEqDiff, ↓reduceIte]
            refine Weak.mk ?_ (fun _ _ h => h) rfl rfl
            simp only [LeL, Le.refl, Le.any, and_self, and_true, true_and]
            all_goals (refine Le.of_eq (congrArg (fun b => AV.v (.bool b)) ?_); rw [Bool.eq_iff_iff]; simp at *; omega)
          · simp only [List.set_cons_zero, List.set_cons_succ]
            refine aops_chunk 2 fun C48 hC48 => ?_
            simp only [bL, ↓aops, ↓aop, ↓aWant, ↓aVal, bS, bA, AV.flat, AV.cl, AV.one, Value.oneCell', thenQ, blockQ, noGotoQ, ↓reduceIte, Nat.reduceEqDiff, reduceCtorEq, undef, aBin, tyX]
            refine hC48 _ ?_
            try clear hC48 C48
            simp only [bL]
            simp only [↓aops, ↓aop, ↓aWant, ↓aVal, bS, bA, AV.flat, AV.cl, AV.one, Value.oneCell', thenQ, blockQ, noGotoQ, ↓reduceIte, Nat.reduceEqDiff, reduceCtorEq, aBool, tyX]
            try simp only [maskL, setsL, putsO, putO, bA, Nat.reduceEqDiff, ↓reduceIte]
            refine Weak.mk ?_ (fun _ _ h => h) rfl rfl
            simp only [LeL, Le.refl, Le.any, and_self, and_true, true_and]
            all_goals (refine Le.of_eq (congrArg (fun b => AV.v (.bool b)) ?_); rw [Bool.eq_iff_iff]; simp at *; omega)
        simp only [maskL, setsL, putsO, putO, bA, Nat.reduceEqDiff, ↓reduceIte]
        refine AWp_cond rfl (fun hb48 => ?_) (fun hb48 => ?_)
        · skip
          refine AWp_seqK fun K49 hK49 => ?_
          refine AWp_region ?_
          simp only [↓aops, ↓aop, ↓aWant, ↓aVal, bS, bA, AV.flat, AV.cl, AV.one, Value.oneCell', thenQ, blockQ, noGotoQ, ↓reduceIte, Nat.reduceEqDiff, reduceCtorEq, tyX]
          refine hK49 _ ?_
          try clear hK49 K49
          refine AWp_ret ?_
          try simp only [thenQ, blockQ, noGotoQ, retQ, aRes, tupOf, bS, bA]
          refine Le.of_eq ?_
          rw [Ty.right_eq]
          all_goals try simp only [decide_eq_true_eq, decide_eq_false_iff_not] at hb8
          all_goals try simp only [decide_eq_true_eq, decide_eq_false_iff_not] at hb26
          all_goals try simp only [decide_eq_true_eq, decide_eq_false_iff_not] at hb35
          all_goals try simp only [decide_eq_true_eq, decide_eq_false_iff_not] at hb48
          all_goals try simp only [decide_eq_true_eq, decide_eq_false_iff_not] at hb56
          all_goals try simp only [decide_eq_true_eq, decide_eq_false_iff_not] at hb68
          first | (have e1 : okN T.k T.n T.ps.length = false := (by simp only [okN, decide_eq_false_iff_not]; omega); rw [e1]; rfl) | (rw [all_false_of hp (by simpa using hb88)]; simp; done) | (have e1 : okN T.k T.n T.ps.length = true := (by simp only [okN, decide_eq_true_eq]; omega); rw [e1, all_true_of (f := Ty.right) (fun i p hi h1 => hs.2 i p (by omega) h1)]; rfl)
        · skip
          refine AWp_joinM [false, true, false, true, false, false, false, false, false, false, false, false, false, false, false, false, false, false, false, false, false, false, false, false, false, false, false, false, false, false, false, false, false, false, false, false, false, false, false, false, false, false, false, false, false, false, false, false, false, false, false, false, false, false, false, false, true, false, false, false, false, false, false, false, false, false, false, false, false, false, false, false, false, false, false, false, false, false, false, false, false, false, false, false, false, false, false, false, false] ([(56, .v (.bool (decide (T.k = 5 ∧ (T.ps.length < 2 ∨ 8 < T.ps.length)))))]) ([]) ?_ ?_
          · skip
            refine AWp_region ?_
            refine aops_chunk 2 fun C50 hC50 => ?_
            simp only [bL, ↓aops, ↓aop, ↓aWant, ↓aVal, bS, bA, AV.flat, AV.cl, AV.one, Value.oneCell', thenQ, blockQ, noGotoQ, ↓reduceIte, Nat.reduceEqDiff, reduceCtorEq, aField, fo32_0, Nat.reduceAdd, aLoad, ti3, getO, pack, Nat.reduceLeDiff, tyX]
            refine hC50 _ ?_
            try clear hC50 C50
            simp only [bL]
            refine aops_chunk 2 fun C51 hC51 => ?_
            simp only [bL, ↓aops, ↓aop, ↓aWant, ↓aVal, bS, bA, AV.flat, AV.cl, AV.one, Value.oneCell', thenQ, blockQ, noGotoQ, ↓reduceIte, Nat.reduceEqDiff, reduceCtorEq, aBin, tyX]
            refine hC51 _ ?_
            try clear hC51 C51
            simp only [bL]
            refine aops_case 60 rfl (fun hc60 => ?_) (fun hc60 => ?_)
            · simp only [List.set_cons_zero, List.set_cons_succ]
              refine aops_chunk 2 fun C52 hC52 => ?_
              simp only [bL, ↓aops, ↓aop, ↓aWant, ↓aVal, bS, bA, AV.flat, AV.cl, AV.one, Value.oneCell', thenQ, blockQ, noGotoQ, ↓reduceIte, Nat.reduceEqDiff, reduceCtorEq, undef, aBin, tyX]
              refine hC52 _ ?_
              try clear hC52 C52
              simp only [bL]
              refine aops_chunk 1 fun C53 hC53 => ?_
              simp only [bL, ↓aops, ↓aop, ↓aWant, ↓aVal, bS, bA, AV.flat, AV.cl, AV.one, Value.oneCell', thenQ, blockQ, noGotoQ, ↓reduceIte, Nat.reduceEqDiff, reduceCtorEq, undef, tyX]
              refine hC53 _ ?_
              try clear hC53 C53
              simp only [bL]
              refine aops_case 63 rfl (fun hc63 => ?_) (fun hc63 => ?_)
              · simp only [List.set_cons_zero, List.set_cons_succ]
                refine aops_chunk 2 fun C54 hC54 => ?_
                simp only [bL, ↓aops, ↓aop, ↓aWant, ↓aVal, bS, bA, AV.flat, AV.cl, AV.one, Value.oneCell', thenQ, blockQ, noGotoQ, ↓reduceIte, Nat.reduceEqDiff, reduceCtorEq, undef, aBin, tyX]
                refine hC54 _ ?_
                try clear hC54 C54
                simp only [bL]
                refine aops_chunk 2 fun C55 hC55 => ?_
                simp only [bL, ↓aops, ↓aop, ↓aWant, ↓aVal, bS, bA, AV.flat, AV.cl, AV.one, Value.oneCell', thenQ, blockQ, noGotoQ, ↓reduceIte, Nat.reduceEqDiff, reduceCtorEq, undef, aBool, tyX]
                refine hC55 _ ?_
                try clear hC55 C55
                simp only [bL]
                simp only [↓aops, ↓aop, ↓aWant, ↓aVal, bS, bA, AV.flat, AV.cl, AV.one, Value.oneCell', thenQ, blockQ, noGotoQ, ↓reduceIte, Nat.reduceEqDiff, reduceCtorEq, tyX]
                try simp only [maskL, setsL, putsO, putO, bA, Nat.reduceEqDiff, ↓reduceIte]
                refine Weak.mk ?_ (fun _ _ h => h) rfl rfl
                simp only [LeL, Le.refl, Le.any, and_self, and_true, true_and]
                all_goals (refine Le.of_eq (congrArg (fun b => AV.v (.bool b)) ?_); rw [Bool.eq_iff_iff]; simp at *; omega)
              · simp only [List.set_cons_zero, List.set_cons_succ]
                refine aops_chunk 2 fun C56 hC56 => ?_
                simp only [bL, ↓aops, ↓aop, ↓aWant, ↓aVal, bS, bA, AV.flat, AV.cl, AV.one, Value.oneCell', thenQ, blockQ, noGotoQ, ↓reduceIte, Nat.reduceEqDiff, reduceCtorEq, undef, aBin, tyX]
                refine hC56 _ ?_
                try clear hC56 C56
                simp only [bL]
                refine aops_chunk 2 fun C57 hC57 => ?_
                simp only [bL, ↓aops, ↓aop, ↓aWant, ↓aVal, bS, bA, AV.flat, AV.cl, AV.one, Value.oneCell', thenQ, blockQ, noGotoQ, ↓reduceIte, Nat.reduceEqDiff, reduceCtorEq, undef, aBool, tyX]
                refine hC57 _ ?_
                try clear hC57 C57
                simp only [bL]
                simp only [↓aops, ↓aop, ↓aWant, ↓aVal, bS, bA, AV.flat, AV.cl, AV.one, Value.oneCell', thenQ, blockQ, noGotoQ, ↓reduceIte, Nat.reduceEqDiff, reduceCtorEq, tyX]
                try simp only [maskL, setsL, putsO, putO, bA, Nat.reduceEqDiff, ↓reduceIte]
                refine Weak.mk ?_ (fun _ _ h => h) rfl rfl
                simp only [LeL, Le.refl, Le.any, and_self, and_true, true_and]
                all_goals (refine Le.of_eq (congrArg (fun b => AV.v (.bool b)) ?_); rw [Bool.eq_iff_iff]; simp at *; omega)
            · simp only [List.set_cons_zero, List.set_cons_succ]
              refine aops_chunk 2 fun C58 hC58 => ?_
              simp only [bL, ↓aops, ↓aop, ↓aWant, ↓aVal, bS, bA, AV.flat, AV.cl, AV.one, Value.oneCell', thenQ, blockQ, noGotoQ, ↓reduceIte, Nat.reduceEqDiff, reduceCtorEq, undef, aBin, tyX]
              refine hC58 _ ?_
              try clear hC58 C58
              simp only [bL]
              refine aops_chunk 2 fun C59 hC59 => ?_
              simp only [bL, ↓aops, ↓aop, ↓aWant, ↓aVal, bS, bA, AV.flat, AV.cl, AV.one, Value.oneCell', thenQ, blockQ, noGotoQ, ↓reduceIte, Nat.reduceEqDiff, reduceCtorEq, undef, tyX]
              refine hC59 _ ?_
              try clear hC59 C59
              simp only [bL]
              refine aops_chunk 2 fun C60 hC60 => ?_
              simp only [bL, ↓aops, ↓aop, ↓aWant, ↓aVal, bS, bA, AV.flat, AV.cl, AV.one, Value.oneCell', thenQ, blockQ, noGotoQ, ↓reduceIte, Nat.reduceEqDiff, reduceCtorEq, undef, aBin, aBool, tyX]
              refine hC60 _ ?_
              try clear hC60 C60
              simp only [bL]
              simp only [↓aops, ↓aop, ↓aWant, ↓aVal, bS, bA, AV.flat, AV.cl, AV.one, Value.oneCell', thenQ, blockQ, noGotoQ, ↓reduceIte, Nat.reduceEqDiff, reduceCtorEq, aBool, tyX]
              try simp only [maskL, setsL, putsO, putO, bA, Nat.reduceEqDiff, ↓reduceIte]
              refine Weak.mk ?_ (fun _ _ h => h) rfl rfl
              simp only [LeL, Le.refl, Le.any, and_self, and_true, true_and]
              all_goals (refine Le.of_eq (congrArg (fun b => AV.v (.bool b)) ?_); rw [Bool.eq_iff_iff]; simp at *; omega)
          simp only [maskL, setsL, putsO, putO, bA, Nat.reduceEqDiff, ↓reduceIte]
          refine AWp_cond rfl (fun hb56 => ?_) (fun hb56 => ?_)
          · skip
            refine AWp_seqK fun K61 hK61 => ?_
            refine AWp_region ?_
            simp only [↓aops, ↓aop, ↓aWant, ↓aVal, bS, bA, AV.flat, AV.cl, AV.one, Value.oneCell', thenQ, blockQ, noGotoQ, ↓reduceIte, Nat.reduceEqDiff, reduceCtorEq, tyX]
            refine hK61 _ ?_
            try clear hK61 K61
            refine AWp_ret ?_
            try simp only [thenQ, blockQ, noGotoQ, retQ, aRes, tupOf, bS, bA]
            refine Le.of_eq ?_
            rw [Ty.right_eq]
            all_goals try simp only [decide_eq_true_eq, decide_eq_false_iff_not] at hb8
            all_goals try simp only [decide_eq_true_eq, decide_eq_false_iff_not] at hb26
            all_goals try simp only [decide_eq_true_eq, decide_eq_false_iff_not] at hb35
            all_goals try simp only [decide_eq_true_eq, decide_eq_false_iff_not] at hb48
            all_goals try simp only [decide_eq_true_eq, decide_eq_false_iff_not] at hb56
            all_goals try simp only [decide_eq_true_eq, decide_eq_false_iff_not] at hb68
            first | (have e1 : okN T.k T.n T.ps.length = false := (by simp only [okN, decide_eq_false_iff_not]; omega); rw [e1]; rfl) | (rw [all_false_of hp (by simpa using hb88)]; simp; done) | (have e1 : okN T.k T.n T.ps.length = true := (by simp only [okN, decide_eq_true_eq]; omega); rw [e1, all_true_of (f := Ty.right) (fun i p hi h1 => hs.2 i p (by omega) h1)]; rfl)
          · skip
            refine AWp_joinM [false, true, false, true, false, false, false, false, false, false, false, false, false, false, false, false, false, false, false, false, false, false, false, false, false, false, false, false, false, false, false, false, false, false, false, false, false, false, false, false, false, false, false, false, false, false, false, false, false, false, false, false, false, false, false, false, false, false, false, false, false, false, false, false, false, false, false, false, true, false, false, false, false, false, false, false, false, false, false, false, false, false, false, false, false, false, false, false, false] ([(68, .v (.bool (decide (T.k < 1 ∨ 5 < T.k))))]) ([]) ?_ ?_
            · skip
              refine AWp_region ?_
              refine aops_chunk 2 fun C62 hC62 => ?_
              simp only [bL, ↓aops, ↓aop, ↓aWant, ↓aVal, bS, bA, AV.flat, AV.cl, AV.one, Value.oneCell', thenQ, blockQ, noGotoQ, ↓reduceIte, Nat.reduceEqDiff, reduceCtorEq, aField, fo32_0, Nat.reduceAdd, aLoad, ti3, getO, pack, Nat.reduceLeDiff, tyX]
              refine hC62 _ ?_
              try clear hC62 C62
              simp only [bL]
              refine aops_chunk 2 fun C63 hC63 => ?_
              simp only [bL, ↓aops, ↓aop, ↓aWant, ↓aVal, bS, bA, AV.flat, AV.cl, AV.one, Value.oneCell', thenQ, blockQ, noGotoQ, ↓reduceIte, Nat.reduceEqDiff, reduceCtorEq, aBin, tyX]
              refine hC63 _ ?_
              try clear hC63 C63
              simp only [bL]
              refine aops_case 72 rfl (fun hc72 => ?_) (fun hc72 => ?_)
              · simp only [List.set_cons_zero, List.set_cons_succ]
                refine aops_chunk 2 fun C64 hC64 => ?_
                simp only [bL, ↓aops, ↓aop, ↓aWant, ↓aVal, bS, bA, AV.flat, AV.cl, AV.one, Value.oneCell', thenQ, blockQ, noGotoQ, ↓reduceIte, Nat.reduceEqDiff, reduceCtorEq, undef, aField, fo32_0, Nat.reduceAdd, aLoad, ti3, getO, pack, Nat.reduceLeDiff, tyX]
                refine hC64 _ ?_
                try clear hC64 C64
                simp only [bL]
                refine aops_chunk 2 fun C65 hC65 => ?_
                simp only [bL, ↓aops, ↓aop, ↓aWant, ↓aVal, bS, bA, AV.flat, AV.cl, AV.one, Value.oneCell', thenQ, blockQ, noGotoQ, ↓reduceIte, Nat.reduceEqDiff, reduceCtorEq, undef, aBin, aBool, tyX]
                refine hC65 _ ?_
                try clear hC65 C65
                simp only [bL]
                simp only [↓aops, ↓aop, ↓aWant, ↓aVal, bS, bA, AV.flat, AV.cl, AV.one, Value.oneCell', thenQ, blockQ, noGotoQ, ↓reduceIte, Nat.reduceEqDiff, reduceCtorEq, tyX]
                try simp only [maskL, setsL, putsO, putO, bA, Nat.reduceEqDiff, ↓reduceIte]
                refine Weak.mk ?_ (fun _ _ h => h) rfl rfl
                simp only [LeL, Le.refl, Le.any, and_self, and_true, true_and]
                all_goals (refine Le.of_eq (congrArg (fun b => AV.v (.bool b)) ?_); rw [Bool.eq_iff_iff]; simp at *; omega)
              · simp only [List.set_cons_zero, List.set_cons_succ]
                refine aops_chunk 2 fun C66 hC66 => ?_
                simp only [bL, ↓aops, ↓aop, ↓aWant, ↓aVal, bS, bA, AV.flat, AV.cl, AV.one, Value.oneCell', thenQ, blockQ, noGotoQ, ↓reduceIte, Nat.reduceEqDiff, reduceCtorEq, undef, aField, fo32_0, Nat.reduceAdd, aLoad, ti3, getO, pack, Nat.reduceLeDiff, tyX]
                refine hC66 _ ?_
                try clear hC66 C66
                simp only [bL]
                refine aops_chunk 2 fun C67 hC67 => ?_
                simp only [bL, ↓aops, ↓aop, ↓aWant, ↓aVal, bS, bA, AV.flat, AV.cl, AV.one, Value.oneCell', thenQ, blockQ, noGotoQ, ↓reduceIte, Nat.reduceEqDiff, reduceCtorEq, undef, aBin, aBool, tyX]
                refine hC67 _ ?_
                try clear hC67 C67
                simp only [bL]
                simp only [↓aops, ↓aop, ↓aWant, ↓aVal, bS, bA, AV.flat, AV.cl, AV.one, Value.oneCell', thenQ, blockQ, noGotoQ, ↓reduceIte, Nat.reduceEqDiff, reduceCtorEq, tyX]
                try simp only [maskL, setsL, putsO, putO, bA, Nat.reduceEqDiff, ↓reduceIte]
                refine Weak.mk ?_ (fun _ _ h => h) rfl rfl
                simp only [LeL, Le.refl, Le.any, and_self, and_true, true_and]
                all_goals (refine Le.of_eq (congrArg (fun b => AV.v (.bool b)) ?_); rw [Bool.eq_iff_iff]; simp at *; omega)
            simp only [maskL, setsL, putsO, putO, bA, Nat.reduceEqDiff, ↓reduceIte]
            refine AWp_cond rfl (fun hb68 => ?_) (fun hb68 => ?_)
            · skip
              refine AWp_seqK fun K68 hK68 => ?_
              refine AWp_region ?_
              simp only [↓aops, ↓aop, ↓aWant, ↓aVal, bS, bA, AV.flat, AV.cl, AV.one, Value.oneCell', thenQ, blockQ, noGotoQ, ↓reduceIte, Nat.reduceEqDiff, reduceCtorEq, tyX]
              refine hK68 _ ?_
              try clear hK68 K68
              refine AWp_ret ?_
              try simp only [thenQ, blockQ, noGotoQ, retQ, aRes, tupOf, bS, bA]
              refine Le.of_eq ?_
              rw [Ty.right_eq]
              all_goals try simp only [decide_eq_true_eq, decide_eq_false_iff_not] at hb8
              all_goals try simp only [decide_eq_true_eq, decide_eq_false_iff_not] at hb26
              all_goals try simp only [decide_eq_true_eq, decide_eq_false_iff_not] at hb35
              all_goals try simp only [decide_eq_true_eq, decide_eq_false_iff_not] at hb48
              all_goals try simp only [decide_eq_true_eq, decide_eq_false_iff_not] at hb56
              all_goals try simp only [decide_eq_true_eq, decide_eq_false_iff_not] at hb68
              first | (have e1 : okN T.k T.n T.ps.length = false := (by simp only [okN, decide_eq_false_iff_not]; omega); rw [e1]; rfl) | (rw [all_false_of hp (by simpa using hb88)]; simp; done) | (have e1 : okN T.k T.n T.ps.length = true := (by simp only [okN, decide_eq_true_eq]; omega); rw [e1, all_true_of (f := Ty.right) (fun i p hi h1 => hs.2 i p (by omega) h1)]; rfl)
            · skip
              refine AWp_skip ?_
              try simp only [thenQ, blockQ, noGotoQ]
              refine hK4 _ ?_
              try clear hK4 K4
              refine AWp_seqK fun K69 hK69 => ?_
              refine AWp_seqK fun K70 hK70 => ?_
              refine AWp_region ?_
              simp only [↓aops, ↓aop, ↓aWant, ↓aVal, bS, bA, AV.flat, AV.cl, AV.one, Value.oneCell', thenQ, blockQ, noGotoQ, ↓reduceIte, Nat.reduceEqDiff, reduceCtorEq, tyX]
              refine hK70 _ ?_
              try clear hK70 K70
              refine AWp_block ?_
              refine AWp_loopM (σ := Nat) [false, true, false, true, true, false, false, false, false, false, false, false, false, false, false, false, false, false, false, false, false, false, false, false, false, false, false, false, false, false, false, false, false, false, false, false, false, false, false, false, false, false, false, false, false, false, false, false, false, false, false, false, false, false, false, false, false, false, false, false, false, false, false, false, false, false, false, false, false, false, false, false, false, false, false, false, false, false, false, false, false, false, false, false, false, false, false, false, false] (fun s => s ≤ T.ps.length ∧ ∀ (i : Nat) (p : Ty), i < s → T.ps[i]? = some p → p.right = true) (fun s => [(4, .v (.int .i64 (s : Int)))]) (fun s => []) (fun s => T.ps.length - s) 0 (⟨by omega, fun i p hi => by omega⟩) ?_ (fun s hs => ?_)
              · skip
                simp only [maskL, setsL, putsO, putO, bA, Nat.reduceEqDiff, ↓reduceIte]
                exact Weak.mk (by simp only [LeL, Le.refl, Le.any, Le.slNil, and_self, Int.natCast_add, Int.cast_ofNat_Int, Int.natCast_one]) (fun _ _ h => h) rfl rfl
              simp only [maskL, setsL, putsO, putO, bA, Nat.reduceEqDiff, ↓reduceIte]
              refine AWp_seqK fun K71 hK71 => ?_
              refine AWp_seqK fun K72 hK72 => ?_
              refine AWp_region ?_
              refine aops_chunk 2 fun C73 hC73 => ?_
              simp only [bL, ↓aops, ↓aop, ↓aWant, ↓aVal, bS, bA, AV.flat, AV.cl, AV.one, Value.oneCell', thenQ, blockQ, noGotoQ, ↓reduceIte, Nat.reduceEqDiff, reduceCtorEq, tyX]
              refine hC73 _ ?_
              try clear hC73 C73
              simp only [bL]
              simp only [↓aops, ↓aop, ↓aWant, ↓aVal, bS, bA, AV.flat, AV.cl, AV.one, Value.oneCell', thenQ, blockQ, noGotoQ, ↓reduceIte, Nat.reduceEqDiff, reduceCtorEq, aBin, tyX]
              refine hK72 _ ?_
              try clear hK72 K72
              refine AWp_cond rfl (fun hb79 => ?_) (fun hb79 => ?_)
              · skip
                have hk : s < T.ps.length := by simpa using hb79
                obtain ⟨p, hp⟩ : ∃ p, T.ps[s]? = some p := ⟨_, List.getElem?_eq_getElem hk⟩
                have hw : IntKind.i64.wrap ((s : Int) + 1) = (s : Int) + 1 := wrap_in (by omega) (by have := hm1.len; simp only [maxLen] at this; omega)
                refine AWp_skip ?_
                try simp only [thenQ, blockQ, noGotoQ]
                refine hK71 _ ?_
                try clear hK71 K71
                refine AWp_seqK fun K74 hK74 => ?_
                refine AWp_block ?_
                refine AWp_seqK fun K75 hK75 => ?_
                refine AWp_region ?_
                refine aops_chunk 2 fun C76 hC76 => ?_
                simp only [bL, ↓aops, ↓aop, ↓aWant, ↓aVal, bS, bA, AV.flat, AV.cl, AV.one, Value.oneCell', thenQ, blockQ, noGotoQ, ↓reduceIte, Nat.reduceEqDiff, reduceCtorEq, aField, fo32_2, Nat.reduceAdd, aLoad, ti22, getO, pack, Nat.reduceLeDiff, tyX, hk, getD_map_cells hp, Int.natCast_add, Int.natCast_one, hw]
                refine hC76 _ ?_
                try clear hC76 C76
                simp only [bL]
                refine aops_chunk 2 fun C77 hC77 => ?_
                simp only [bL, ↓aops, ↓aop, ↓aWant, ↓aVal, bS, bA, AV.flat, AV.cl, AV.one, Value.oneCell', thenQ, blockQ, noGotoQ, ↓reduceIte, Nat.reduceEqDiff, reduceCtorEq, getO, aIndexA, es22, Int.natCast_nonneg, Int.ofNat_lt, Int.toNat_natCast, List.length_map, Int.le_refl, Int.toNat_zero, Int.toNat_one, Int.reduceLE, tyX, hk, getD_map_cells hp, Int.natCast_add, Int.natCast_one, hw]
                refine hC77 _ ?_
                try clear hC77 C77
                simp only [bL]
                refine aops_chunk 1 fun C78 hC78 => ?_
                simp only [bL, ↓aops, ↓aop, ↓aWant, ↓aVal, bS, bA, AV.flat, AV.cl, AV.one, Value.oneCell', thenQ, blockQ, noGotoQ, ↓reduceIte, Nat.reduceEqDiff, reduceCtorEq, aLoad, ti32, getO, pack, Nat.reduceAdd, Nat.reduceLeDiff, tyX, hk, getD_map_cells hp, Int.natCast_add, Int.natCast_one, hw]
                refine hC78 _ ?_
                try clear hC78 C78
                simp only [bL]
                refine aops_chunk 1 fun C79 hC79 => ?_
                simp only [bL, ↓aops, ↓aop, ↓aWant, ↓aVal, bS, bA, AV.flat, AV.cl, AV.one, Value.oneCell', thenQ, blockQ, noGotoQ, ↓reduceIte, Nat.reduceEqDiff, reduceCtorEq, aCallV, tyX, hk, getD_map_cells hp, Int.natCast_add, Int.natCast_one, hw]
                refine APure.call (ih p (List.mem_of_getElem? hp)) ?_
                try simp only [bS, bA, thenQ, blockQ, noGotoQ]
                refine hC79 _ ?_
                try clear hC79 C79
                simp only [bL]
                simp only [↓aops, ↓aop, ↓aWant, ↓aVal, bS, bA, AV.flat, AV.cl, AV.one, Value.oneCell', thenQ, blockQ, noGotoQ, ↓reduceIte, Nat.reduceEqDiff, reduceCtorEq, aUn, tyX, hk, getD_map_cells hp, Int.natCast_add, Int.natCast_one, hw]
                refine hK75 _ ?_
                try clear hK75 K75
                refine AWp_cond rfl (fun hb88 => ?_) (fun hb88 => ?_)
                · skip
                  refine AWp_seqK fun K80 hK80 => ?_
                  refine AWp_region ?_
                  simp only [↓aops, ↓aop, ↓aWant, ↓aVal, bS, bA, AV.flat, AV.cl, AV.one, Value.oneCell', thenQ, blockQ, noGotoQ, ↓reduceIte, Nat.reduceEqDiff, reduceCtorEq, tyX, hk, getD_map_cells hp, Int.natCast_add, Int.natCast_one, hw]
                  refine hK80 _ ?_
                  try clear hK80 K80
                  refine AWp_ret ?_
                  try simp only [thenQ, blockQ, noGotoQ, retQ, aRes, tupOf, bS, bA]
                  refine Le.of_eq ?_
                  rw [Ty.right_eq]
                  all_goals try simp only [decide_eq_true_eq, decide_eq_false_iff_not] at hb8
                  all_goals try simp only [decide_eq_true_eq, decide_eq_false_iff_not] at hb26
                  all_goals try simp only [decide_eq_true_eq, decide_eq_false_iff_not] at hb35
                  all_goals try simp only [decide_eq_true_eq, decide_eq_false_iff_not] at hb48
                  all_goals try simp only [decide_eq_true_eq, decide_eq_false_iff_not] at hb56
                  all_goals try simp only [decide_eq_true_eq, decide_eq_false_iff_not] at hb68
                  first | (have e1 : okN T.k T.n T.ps.length = false := (by simp only [okN, decide_eq_false_iff_not]; omega); rw [e1]; rfl) | (rw [all_false_of hp (by simpa using hb88)]; simp; done) | (have e1 : okN T.k T.n T.ps.length = true := (by simp only [okN, decide_eq_true_eq]; omega); rw [e1, all_true_of (f := Ty.right) (fun i p hi h1 => hs.2 i p (by omega) h1)]; rfl)
                · skip
                  refine AWp_skip ?_
                  try simp only [thenQ, blockQ, noGotoQ]
                  refine hK74 _ ?_
                  try clear hK74 K74
                  refine AWp_region ?_
                  refine aops_chunk 2 fun C81 hC81 => ?_
                  simp only [bL, ↓aops, ↓aop, ↓aWant, ↓aVal, bS, bA, AV.flat, AV.cl, AV.one, Value.oneCell', thenQ, blockQ, noGotoQ, ↓reduceIte, Nat.reduceEqDiff, reduceCtorEq, aBin, tyX, hk, getD_map_cells hp, Int.natCast_add, Int.natCast_one, hw]
                  refine hC81 _ ?_
                  try clear hC81 C81
                  simp only [bL]
                  simp only [↓aops, ↓aop, ↓aWant, ↓aVal, bS, bA, AV.flat, AV.cl, AV.one, Value.oneCell', thenQ, blockQ, noGotoQ, ↓reduceIte, Nat.reduceEqDiff, reduceCtorEq, tyX, hk, getD_map_cells hp, Int.natCast_add, Int.natCast_one, hw]
                  refine ⟨(s + 1), ⟨by omega, fun i p' hi h1 => (by rcases Nat.lt_or_ge i s with h3 | h3 <;> first | exact hs.2 i p' h3 h1 | (obtain rfl : i = s := (by omega); rw [hp] at h1; cases h1; simpa using hb88))⟩, by omega, ?_⟩
                  simp only [maskL, setsL, putsO, putO, bA, Nat.reduceEqDiff, ↓reduceIte, hk, getD_map_cells hp, Int.natCast_add, Int.natCast_one, hw]
                  exact Weak.mk (by simp only [LeL, Le.refl, Le.any, Le.slNil, and_self, Int.natCast_add, Int.cast_ofNat_Int, Int.natCast_one]) (fun _ _ h => h) rfl rfl
              · skip
                have hk : s = T.ps.length := by have := hs.1; simp at hb79; omega
                refine AWp_exit ?_
                simp only [thenQ, blockQ, noGotoQ, bA, Nat.reduceEqDiff, ↓reduceIte]
                refine hK69 _ ?_
                try clear hK69 K69
                refine AWp_seqK fun K82 hK82 => ?_
                refine AWp_region ?_
                simp only [↓aops, ↓aop, ↓aWant, ↓aVal, bS, bA, AV.flat, AV.cl, AV.one, Value.oneCell', thenQ, blockQ, noGotoQ, ↓reduceIte, Nat.reduceEqDiff, reduceCtorEq, tyX]
                refine hK82 _ ?_
                try clear hK82 K82
                refine AWp_ret ?_
                try simp only [thenQ, blockQ, noGotoQ, retQ, aRes, tupOf, bS, bA]
                refine Le.of_eq ?_
                rw [Ty.right_eq]
                all_goals try simp only [decide_eq_true_eq, decide_eq_false_iff_not] at hb8
                all_goals try simp only [decide_eq_true_eq, decide_eq_false_iff_not] at hb26
                all_goals try simp only [decide_eq_true_eq, decide_eq_false_iff_not] at hb35
                all_goals try simp only [decide_eq_true_eq, decide_eq_false_iff_not] at hb48
                all_goals try simp only [decide_eq_true_eq, decide_eq_false_iff_not] at hb56
                all_goals try simp only [decide_eq_true_eq, decide_eq_false_iff_not] at hb68
                first | (have e1 : okN T.k T.n T.ps.length = false := (by simp only [okN, decide_eq_false_iff_not]; omega); rw [e1]; rfl) | (rw [all_false_of hp (by simpa using hb88)]; simp; done) | (have e1 : okN T.k T.n T.ps.length = true := (by simp only [okN, decide_eq_true_eq]; omega); rw [e1, all_true_of (f := Ty.right) (fun i p hi h1 => hs.2 i p (by omega) h1)]; rfl)
theorem known_pure (n : Int) : APure Try.prog 104 [.v (.int .i64 n)] (.v (.bool (decide (0 ≤ n ∧ n < 1073741824)))) := by
  refine APure.mkL (.cons (.v _) .nil) (.v _) ?_
  refine ACalls_intro Try.func104 (by kernel_rfl) rfl (by rw [Try.ntmps104]; simp) (fun hm => ?_)
  simp only [Try.ntmps104, Try.results104, List.length_cons, List.length_nil, Nat.reduceAdd, Nat.reduceSub, List.replicate_succ, List.replicate_zero, List.cons_append, List.nil_append]
  refine AWp_seqK fun K1 hK1 => ?_
  refine AWp_region ?_
  simp only [↓aops, ↓aop, ↓aWant, ↓aVal, bS, bA, AV.flat, AV.cl, AV.one, Value.oneCell', thenQ, blockQ, noGotoQ, ↓reduceIte, Nat.reduceEqDiff, reduceCtorEq, tyX]
  refine hK1 _ ?_
  try clear hK1 K1
  refine AWp_seqK fun K2 hK2 => ?_
  refine AWp_region ?_
  refine aops_chunk 3 fun C3 hC3 => ?_
  simp only [bL, ↓aops, ↓aop, ↓aWant, ↓aVal, bS, bA, AV.flat, AV.cl, AV.one, Value.oneCell', thenQ, blockQ, noGotoQ, ↓reduceIte, Nat.reduceEqDiff, reduceCtorEq, aBin, tyX]
  refine hC3 _ ?_
  try clear hC3 C3
  simp only [bL]
  refine aops_case 5 rfl (fun hc5 => ?_) (fun hc5 => ?_)
  · simp only [List.set_cons_zero, List.set_cons_succ]
    simp only [↓aops, ↓aop, ↓aWant, ↓aVal, bS, bA, AV.flat, AV.cl, AV.one, Value.oneCell', thenQ, blockQ, noGotoQ, ↓reduceIte, Nat.reduceEqDiff, reduceCtorEq, bL, undef, aBin, aBool, tyX]
    refine hK2 _ ?_
    try clear hK2 K2
    refine AWp_ret ?_
    try simp only [thenQ, blockQ, noGotoQ, retQ, aRes, tupOf, bS, bA]
    refine Le.of_eq (congrArg (fun b => AV.v (.bool b)) ?_)
    simp at *; omega
  · simp only [List.set_cons_zero, List.set_cons_succ]
    simp only [↓aops, ↓aop, ↓aWant, ↓aVal, bS, bA, AV.flat, AV.cl, AV.one, Value.oneCell', thenQ, blockQ, noGotoQ, ↓reduceIte, Nat.reduceEqDiff, reduceCtorEq, bL, undef, aBin, aBool, tyX]
    refine hK2 _ ?_
    try clear hK2 K2
    refine AWp_ret ?_
    try simp only [thenQ, blockQ, noGotoQ, retQ, aRes, tupOf, bS, bA]
    refine Le.of_eq (congrArg (fun b => AV.v (.bool b)) ?_)
    simp at *; omega
theorem plain_pure (T : Ty) : APure Try.prog 80 [.agg T.cells] (.v (.bool (okN T.k T.n T.ps.length))) := by
  refine APure.mkL (.cons T.dataAgg .nil) (.v _) ?_
  refine ACalls_intro Try.func80 (by kernel_rfl) rfl (by rw [Try.ntmps80]; simp) (fun hm => ?_)
  simp only [Try.ntmps80, Try.results80, List.length_cons, List.length_nil, Nat.reduceAdd, Nat.reduceSub, List.replicate_succ, List.replicate_zero, List.cons_append, List.nil_append]
  refine AWp_seqK fun K1 hK1 => ?_
  refine AWp_region ?_
  simp only [↓aops, ↓aop, ↓aWant, ↓aVal, bS, bA, AV.flat, AV.cl, AV.one, Value.oneCell', thenQ, blockQ, noGotoQ, ↓reduceIte, Nat.reduceEqDiff, reduceCtorEq, tyX]
  refine hK1 _ ?_
  try clear hK1 K1
  refine AWp_seqK fun K2 hK2 => ?_
  refine AWp_region ?_
  refine aops_chunk 3 fun C3 hC3 => ?_
  simp only [bL, ↓aops, ↓aop, ↓aWant, ↓aVal, bS, bA, AV.flat, AV.cl, AV.one, Value.oneCell', thenQ, blockQ, noGotoQ, ↓reduceIte, Nat.reduceEqDiff, reduceCtorEq, aField, fo32_2, Nat.reduceAdd, aLoad, ti22, getO, pack, Nat.reduceLeDiff, aLenX, aLen, ln22, List.length_map, tyX]
  refine hC3 _ ?_
  try clear hC3 C3
  simp only [bL]
  simp only [↓aops, ↓aop, ↓aWant, ↓aVal, bS, bA, AV.flat, AV.cl, AV.one, Value.oneCell', thenQ, blockQ, noGotoQ, ↓reduceIte, Nat.reduceEqDiff, reduceCtorEq, tyX]
  refine hK2 _ ?_
  try clear hK2 K2
  refine AWp_seqK fun K4 hK4 => ?_
  refine AWp_seqK fun K5 hK5 => ?_
  refine AWp_region ?_
  simp only [↓aops, ↓aop, ↓aWant, ↓aVal, bS, bA, AV.flat, AV.cl, AV.one, Value.oneCell', thenQ, blockQ, noGotoQ, ↓reduceIte, Nat.reduceEqDiff, reduceCtorEq, aField, fo32_0, bL, Nat.reduceAdd, aLoad, ti3, getO, pack, Nat.reduceLeDiff, tyX]
  refine hK5 _ ?_
  try clear hK5 K5
  refine AWp_block ?_
  refine AWp_seqK fun K6 hK6 => ?_
  refine AWp_region ?_
  simp only [↓aops, ↓aop, ↓aWant, ↓aVal, bS, bA, AV.flat, AV.cl, AV.one, Value.oneCell', thenQ, blockQ, noGotoQ, ↓reduceIte, Nat.reduceEqDiff, reduceCtorEq, aBin, tyX]
  refine hK6 _ ?_
  try clear hK6 K6
  refine AWp_cond rfl (fun hb9 => ?_) (fun hb9 => ?_)
  · skip
    refine AWp_seqK fun K7 hK7 => ?_
    refine AWp_region ?_
    refine aops_chunk 2 fun C8 hC8 => ?_
    simp only [bL, ↓aops, ↓aop, ↓aWant, ↓aVal, bS, bA, AV.flat, AV.cl, AV.one, Value.oneCell', thenQ, blockQ, noGotoQ, ↓reduceIte, Nat.reduceEqDiff, reduceCtorEq, aField, fo32_1, Nat.reduceAdd, aLoad, ti3, getO, pack, Nat.reduceLeDiff, tyX]
    refine hC8 _ ?_
    try clear hC8 C8
    simp only [bL]
    refine aops_chunk 1 fun C9 hC9 => ?_
    simp only [bL, ↓aops, ↓aop, ↓aWant, ↓aVal, bS, bA, AV.flat, AV.cl, AV.one, Value.oneCell', thenQ, blockQ, noGotoQ, ↓reduceIte, Nat.reduceEqDiff, reduceCtorEq, aCallV, tyX]
    refine APure.call (known_pure T.n) ?_
    try simp only [bS, bA, thenQ, blockQ, noGotoQ]
    refine hC9 _ ?_
    try clear hC9 C9
    simp only [bL]
    refine aops_chunk 1 fun C10 hC10 => ?_
    simp only [bL, ↓aops, ↓aop, ↓aWant, ↓aVal, bS, bA, AV.flat, AV.cl, AV.one, Value.oneCell', thenQ, blockQ, noGotoQ, ↓reduceIte, Nat.reduceEqDiff, reduceCtorEq, tyX]
    refine hC10 _ ?_
    try clear hC10 C10
    simp only [bL]
    refine aops_case 14 rfl (fun hc14 => ?_) (fun hc14 => ?_)
    · simp only [List.set_cons_zero, List.set_cons_succ]
      refine aops_chunk 3 fun C11 hC11 => ?_
      simp only [bL, ↓aops, ↓aop, ↓aWant, ↓aVal, bS, bA, AV.flat, AV.cl, AV.one, Value.oneCell', thenQ, blockQ, noGotoQ, ↓reduceIte, Nat.reduceEqDiff, reduceCtorEq, undef, aBin, aBool, tyX]
      refine hC11 _ ?_
      try clear hC11 C11
      simp only [bL]
      simp only [↓aops, ↓aop, ↓aWant, ↓aVal, bS, bA, AV.flat, AV.cl, AV.one, Value.oneCell', thenQ, blockQ, noGotoQ, ↓reduceIte, Nat.reduceEqDiff, reduceCtorEq, tyX]
      refine hK7 _ ?_
      try clear hK7 K7
      refine AWp_ret ?_
      try simp only [thenQ, blockQ, noGotoQ, retQ, aRes, tupOf, bS, bA]
      refine Le.of_eq (congrArg (fun b => AV.v (.bool b)) ?_)
      rw [Bool.eq_iff_iff]
      simp only [okN, decide_eq_true_eq, beq_iff_eq, Bool.false_eq_true, beq_eq_false_iff_ne, ne_eq, decide_eq_false_iff_not, false_iff, true_iff, and_true, true_and] at *
      try omega
    · simp only [List.set_cons_zero, List.set_cons_succ]
      refine aops_chunk 3 fun C12 hC12 => ?_
      simp only [bL, ↓aops, ↓aop, ↓aWant, ↓aVal, bS, bA, AV.flat, AV.cl, AV.one, Value.oneCell', thenQ, blockQ, noGotoQ, ↓reduceIte, Nat.reduceEqDiff, reduceCtorEq, undef, aBin, aBool, tyX]
      refine hC12 _ ?_
      try clear hC12 C12
      simp only [bL]
      simp only [↓aops, ↓aop, ↓aWant, ↓aVal, bS, bA, AV.flat, AV.cl, AV.one, Value.oneCell', thenQ, blockQ, noGotoQ, ↓reduceIte, Nat.reduceEqDiff, reduceCtorEq, tyX]
      refine hK7 _ ?_
      try clear hK7 K7
      refine AWp_ret ?_
      try simp only [thenQ, blockQ, noGotoQ, retQ, aRes, tupOf, bS, bA]
      refine Le.of_eq (congrArg (fun b => AV.v (.bool b)) ?_)
      rw [Bool.eq_iff_iff]
      simp only [okN, decide_eq_true_eq, beq_iff_eq, Bool.false_eq_true, beq_eq_false_iff_ne, ne_eq, decide_eq_false_iff_not, false_iff, true_iff, and_true, true_and] at *
      try omega
  · skip
    refine AWp_seqK fun K13 hK13 => ?_
    refine AWp_seqK fun K14 hK14 => ?_
    refine AWp_region ?_
    simp only [↓aops, ↓aop, ↓aWant, ↓aVal, bS, bA, AV.flat, AV.cl, AV.one, Value.oneCell', thenQ, blockQ, noGotoQ, ↓reduceIte, Nat.reduceEqDiff, reduceCtorEq, aBin, tyX]
    refine hK14 _ ?_
    try clear hK14 K14
    refine AWp_cond rfl (fun hb18 => ?_) (fun hb18 => ?_)
    · skip
      refine AWp_skip ?_
      try simp only [thenQ, blockQ, noGotoQ]
      refine hK13 _ ?_
      try clear hK13 K13
      refine AWp_cond (b := true) (by first | exact rfl | exact congrArg (fun b => AV.v (.bool b)) hb18) (fun _ => ?_) (fun h => (by cases h))
      refine AWp_seqK fun K15 hK15 => ?_
      refine AWp_region ?_
      refine aops_chunk 3 fun C16 hC16 => ?_
      simp only [bL, ↓aops, ↓aop, ↓aWant, ↓aVal, bS, bA, AV.flat, AV.cl, AV.one, Value.oneCell', thenQ, blockQ, noGotoQ, ↓reduceIte, Nat.reduceEqDiff, reduceCtorEq, aField, fo32_1, Nat.reduceAdd, aLoad, ti3, getO, pack, Nat.reduceLeDiff, aBin, tyX]
      refine hC16 _ ?_
      try clear hC16 C16
      simp only [bL]
      refine aops_chunk 1 fun C17 hC17 => ?_
      simp only [bL, ↓aops, ↓aop, ↓aWant, ↓aVal, bS, bA, AV.flat, AV.cl, AV.one, Value.oneCell', thenQ, blockQ, noGotoQ, ↓reduceIte, Nat.reduceEqDiff, reduceCtorEq, tyX]
      refine hC17 _ ?_
      try clear hC17 C17
      simp only [bL]
      refine aops_case 24 rfl (fun hc24 => ?_) (fun hc24 => ?_)
      · simp only [List.set_cons_zero, List.set_cons_succ]
        refine aops_chunk 3 fun C18 hC18 => ?_
        simp only [bL, ↓aops, ↓aop, ↓aWant, ↓aVal, bS, bA, AV.flat, AV.cl, AV.one, Value.oneCell', thenQ, blockQ, noGotoQ, ↓reduceIte, Nat.reduceEqDiff, reduceCtorEq, undef, aBin, aBool, tyX]
        refine hC18 _ ?_
        try clear hC18 C18
        simp only [bL]
        simp only [↓aops, ↓aop, ↓aWant, ↓aVal, bS, bA, AV.flat, AV.cl, AV.one, Value.oneCell', thenQ, blockQ, noGotoQ, ↓reduceIte, Nat.reduceEqDiff, reduceCtorEq, tyX]
        refine hK15 _ ?_
        try clear hK15 K15
        refine AWp_ret ?_
        try simp only [thenQ, blockQ, noGotoQ, retQ, aRes, tupOf, bS, bA]
        refine Le.of_eq (congrArg (fun b => AV.v (.bool b)) ?_)
        rw [Bool.eq_iff_iff]
        simp only [okN, decide_eq_true_eq, beq_iff_eq, Bool.false_eq_true, beq_eq_false_iff_ne, ne_eq, decide_eq_false_iff_not, false_iff, true_iff, and_true, true_and] at *
        try omega
      · simp only [List.set_cons_zero, List.set_cons_succ]
        refine aops_chunk 3 fun C19 hC19 => ?_
        simp only [bL, ↓aops, ↓aop, ↓aWant, ↓aVal, bS, bA, AV.flat, AV.cl, AV.one, Value.oneCell', thenQ, blockQ, noGotoQ, ↓reduceIte, Nat.reduceEqDiff, reduceCtorEq, undef, aBin, aBool, tyX]
        refine hC19 _ ?_
        try clear hC19 C19
        simp only [bL]
        simp only [↓aops, ↓aop, ↓aWant, ↓aVal, bS, bA, AV.flat, AV.cl, AV.one, Value.oneCell', thenQ, blockQ, noGotoQ, ↓reduceIte, Nat.reduceEqDiff, reduceCtorEq, tyX]
        refine hK15 _ ?_
        try clear hK15 K15
        refine AWp_ret ?_
        try simp only [thenQ, blockQ, noGotoQ, retQ, aRes, tupOf, bS, bA]
        refine Le.of_eq (congrArg (fun b => AV.v (.bool b)) ?_)
        rw [Bool.eq_iff_iff]
        simp only [okN, decide_eq_true_eq, beq_iff_eq, Bool.false_eq_true, beq_eq_false_iff_ne, ne_eq, decide_eq_false_iff_not, false_iff, true_iff, and_true, true_and] at *
        try omega
    · skip
      refine AWp_region ?_
      simp only [↓aops, ↓aop, ↓aWant, ↓aVal, bS, bA, AV.flat, AV.cl, AV.one, Value.oneCell', thenQ, blockQ, noGotoQ, ↓reduceIte, Nat.reduceEqDiff, reduceCtorEq, aBin, tyX]
      refine hK13 _ ?_
      try clear hK13 K13
      refine AWp_cond rfl (fun hb18 => ?_) (fun hb18 => ?_)
      · skip
        refine AWp_seqK fun K20 hK20 => ?_
        refine AWp_region ?_
        refine aops_chunk 3 fun C21 hC21 => ?_
        simp only [bL, ↓aops, ↓aop, ↓aWant, ↓aVal, bS, bA, AV.flat, AV.cl, AV.one, Value.oneCell', thenQ, blockQ, noGotoQ, ↓reduceIte, Nat.reduceEqDiff, reduceCtorEq, aField, fo32_1, Nat.reduceAdd, aLoad, ti3, getO, pack, Nat.reduceLeDiff, aBin, tyX]
        refine hC21 _ ?_
        try clear hC21 C21
        simp only [bL]
        refine aops_chunk 1 fun C22 hC22 => ?_
        simp only [bL, ↓aops, ↓aop, ↓aWant, ↓aVal, bS, bA, AV.flat, AV.cl, AV.one, Value.oneCell', thenQ, blockQ, noGotoQ, ↓reduceIte, Nat.reduceEqDiff, reduceCtorEq, tyX]
        refine hC22 _ ?_
        try clear hC22 C22
        simp only [bL]
        refine aops_case 24 rfl (fun hc24 => ?_) (fun hc24 => ?_)
        · simp only [List.set_cons_zero, List.set_cons_succ]
          refine aops_chunk 3 fun C23 hC23 => ?_
          simp only [bL, ↓aops, ↓aop, ↓aWant, ↓aVal, bS, bA, AV.flat, AV.cl, AV.one, Value.oneCell', thenQ, blockQ, noGotoQ, ↓reduceIte, Nat.reduceEqDiff, reduceCtorEq, undef, aBin, aBool, tyX]
          refine hC23 _ ?_
          try clear hC23 C23
          simp only [bL]
          simp only [↓aops, ↓aop, ↓aWant, ↓aVal, bS, bA, AV.flat, AV.cl, AV.one, Value.oneCell', thenQ, blockQ, noGotoQ, ↓reduceIte, Nat.reduceEqDiff, reduceCtorEq, tyX]
          refine hK20 _ ?_
          try clear hK20 K20
          refine AWp_ret ?_
          try simp only [thenQ, blockQ, noGotoQ, retQ, aRes, tupOf, bS, bA]
          refine Le.of_eq (congrArg (fun b => AV.v (.bool b)) ?_)
          rw [Bool.eq_iff_iff]
          simp only [okN, decide_eq_true_eq, beq_iff_eq, Bool.false_eq_true, beq_eq_false_iff_ne, ne_eq, decide_eq_false_iff_not, false_iff, true_iff, and_true, true_and] at *
          try omega
        · simp only [List.set_cons_zero, List.set_cons_succ]
          refine aops_chunk 3 fun C24 hC24 => ?_
          simp only [bL, ↓aops, ↓aop, ↓aWant, ↓aVal, bS, bA, AV.flat, AV.cl, AV.one, Value.oneCell', thenQ, blockQ, noGotoQ, ↓reduceIte, Nat.reduceEqDiff, reduceCtorEq, undef, aBin, aBool, tyX]
          refine hC24 _ ?_
          try clear hC24 C24
          simp only [bL]
          simp only [↓aops, ↓aop, ↓aWant, ↓aVal, bS, bA, AV.flat, AV.cl, AV.one, Value.oneCell', thenQ, blockQ, noGotoQ, ↓reduceIte, Nat.reduceEqDiff, reduceCtorEq, tyX]
          refine hK20 _ ?_
          try clear hK20 K20
          refine AWp_ret ?_
          try simp only [thenQ, blockQ, noGotoQ, retQ, aRes, tupOf, bS, bA]
          refine Le.of_eq (congrArg (fun b => AV.v (.bool b)) ?_)
          rw [Bool.eq_iff_iff]
          simp only [okN, decide_eq_true_eq, beq_iff_eq, Bool.false_eq_true, beq_eq_false_iff_ne, ne_eq, decide_eq_false_iff_not, false_iff, true_iff, and_true, true_and] at *
          try omega
      · skip
        refine AWp_seqK fun K25 hK25 => ?_
        refine AWp_region ?_
        simp only [↓aops, ↓aop, ↓aWant, ↓aVal, bS, bA, AV.flat, AV.cl, AV.one, Value.oneCell', thenQ, blockQ, noGotoQ, ↓reduceIte, Nat.reduceEqDiff, reduceCtorEq, aBin, tyX]
        refine hK25 _ ?_
        try clear hK25 K25
        refine AWp_cond rfl (fun hb28 => ?_) (fun hb28 => ?_)
        · skip
          refine AWp_seqK fun K26 hK26 => ?_
          refine AWp_region ?_
          refine aops_chunk 3 fun C27 hC27 => ?_
          simp only [bL, ↓aops, ↓aop, ↓aWant, ↓aVal, bS, bA, AV.flat, AV.cl, AV.one, Value.oneCell', thenQ, blockQ, noGotoQ, ↓reduceIte, Nat.reduceEqDiff, reduceCtorEq, aField, fo32_1, Nat.reduceAdd, aLoad, ti3, getO, pack, Nat.reduceLeDiff, aBin, tyX]
          refine hC27 _ ?_
          try clear hC27 C27
          simp only [bL]
          refine aops_chunk 1 fun C28 hC28 => ?_
          simp only [bL, ↓aops, ↓aop, ↓aWant, ↓aVal, bS, bA, AV.flat, AV.cl, AV.one, Value.oneCell', thenQ, blockQ, noGotoQ, ↓reduceIte, Nat.reduceEqDiff, reduceCtorEq, tyX]
          refine hC28 _ ?_
          try clear hC28 C28
          simp only [bL]
          refine aops_case 33 rfl (fun hc33 => ?_) (fun hc33 => ?_)
          · simp only [List.set_cons_zero, List.set_cons_succ]
            refine aops_chunk 3 fun C29 hC29 => ?_
            simp only [bL, ↓aops, ↓aop, ↓aWant, ↓aVal, bS, bA, AV.flat, AV.cl, AV.one, Value.oneCell', thenQ, blockQ, noGotoQ, ↓reduceIte, Nat.reduceEqDiff, reduceCtorEq, undef, aBin, aBool, tyX]
            refine hC29 _ ?_
            try clear hC29 C29
            simp only [bL]
            simp only [↓aops, ↓aop, ↓aWant, ↓aVal, bS, bA, AV.flat, AV.cl, AV.one, Value.oneCell', thenQ, blockQ, noGotoQ, ↓reduceIte, Nat.reduceEqDiff, reduceCtorEq, tyX]
            refine hK26 _ ?_
            try clear hK26 K26
            refine AWp_ret ?_
            try simp only [thenQ, blockQ, noGotoQ, retQ, aRes, tupOf, bS, bA]
            refine Le.of_eq (congrArg (fun b => AV.v (.bool b)) ?_)
            rw [Bool.eq_iff_iff]
            simp only [okN, decide_eq_true_eq, beq_iff_eq, Bool.false_eq_true, beq_eq_false_iff_ne, ne_eq, decide_eq_false_iff_not, false_iff, true_iff, and_true, true_and] at *
            try omega
          · simp only [List.set_cons_zero, List.set_cons_succ]
            refine aops_chunk 3 fun C30 hC30 => ?_
            simp only [bL, ↓aops, ↓aop, ↓aWant, ↓aVal, bS, bA, AV.flat, AV.cl, AV.one, Value.oneCell', thenQ, blockQ, noGotoQ, ↓reduceIte, Nat.reduceEqDiff, reduceCtorEq, undef, aBin, aBool, tyX]
            refine hC30 _ ?_
            try clear hC30 C30
            simp only [bL]
            simp only [↓aops, ↓aop, ↓aWant, ↓aVal, bS, bA, AV.flat, AV.cl, AV.one, Value.oneCell', thenQ, blockQ, noGotoQ, ↓reduceIte, Nat.reduceEqDiff, reduceCtorEq, tyX]
            refine hK26 _ ?_
            try clear hK26 K26
            refine AWp_ret ?_
            try simp only [thenQ, blockQ, noGotoQ, retQ, aRes, tupOf, bS, bA]
            refine Le.of_eq (congrArg (fun b => AV.v (.bool b)) ?_)
            rw [Bool.eq_iff_iff]
            simp only [okN, decide_eq_true_eq, beq_iff_eq, Bool.false_eq_true, beq_eq_false_iff_ne, ne_eq, decide_eq_false_iff_not, false_iff, true_iff, and_true, true_and] at *
            try omega
        · skip
          refine AWp_seqK fun K31 hK31 => ?_
          refine AWp_region ?_
          simp only [↓aops, ↓aop, ↓aWant, ↓aVal, bS, bA, AV.flat, AV.cl, AV.one, Value.oneCell', thenQ, blockQ, noGotoQ, ↓reduceIte, Nat.reduceEqDiff, reduceCtorEq, aBin, tyX]
          refine hK31 _ ?_
          try clear hK31 K31
          refine AWp_cond rfl (fun hb37 => ?_) (fun hb37 => ?_)
          · skip
            refine AWp_seqK fun K32 hK32 => ?_
            refine AWp_region ?_
            refine aops_chunk 3 fun C33 hC33 => ?_
            simp only [bL, ↓aops, ↓aop, ↓aWant, ↓aVal, bS, bA, AV.flat, AV.cl, AV.one, Value.oneCell', thenQ, blockQ, noGotoQ, ↓reduceIte, Nat.reduceEqDiff, reduceCtorEq, aField, fo32_1, Nat.reduceAdd, aLoad, ti3, getO, pack, Nat.reduceLeDiff, aBin, tyX]
            refine hC33 _ ?_
            try clear hC33 C33
            simp only [bL]
            refine aops_chunk 1 fun C34 hC34 => ?_
            simp only [bL, ↓aops, ↓aop, ↓aWant, ↓aVal, bS, bA, AV.flat, AV.cl, AV.one, Value.oneCell', thenQ, blockQ, noGotoQ, ↓reduceIte, Nat.reduceEqDiff, reduceCtorEq, tyX]
            refine hC34 _ ?_
            try clear hC34 C34
            simp only [bL]
            refine aops_case 42 rfl (fun hc42 => ?_) (fun hc42 => ?_)
            · simp only [List.set_cons_zero, List.set_cons_succ]
              refine aops_chunk 3 fun C35 hC35 => ?_
              simp only [bL, ↓aops, ↓aop, ↓aWant, ↓aVal, bS, bA, AV.flat, AV.cl, AV.one, Value.oneCell', thenQ, blockQ, noGotoQ, ↓reduceIte, Nat.reduceEqDiff, reduceCtorEq, undef, aBin, aBool, tyX]
              refine hC35 _ ?_
              try clear hC35 C35
              simp only [bL]
              refine aops_chunk 1 fun C36 hC36 => ?_
              simp only [bL, ↓aops, ↓aop, ↓aWant, ↓aVal, bS, bA, AV.flat, AV.cl, AV.one, Value.oneCell', thenQ, blockQ, noGotoQ, ↓reduceIte, Nat.reduceEqDiff, reduceCtorEq, tyX]
              refine hC36 _ ?_
              try clear hC36 C36
              simp only [bL]
              refine aops_case 46 rfl (fun hc46 => ?_) (fun hc46 => ?_)
              · simp only [List.set_cons_zero, List.set_cons_succ]
                refine aops_chunk 3 fun C37 hC37 => ?_
                simp only [bL, ↓aops, ↓aop, ↓aWant, ↓aVal, bS, bA, AV.flat, AV.cl, AV.one, Value.oneCell', thenQ, blockQ, noGotoQ, ↓reduceIte, Nat.reduceEqDiff, reduceCtorEq, undef, aBin, aBool, tyX]
                refine hC37 _ ?_
                try clear hC37 C37
                simp only [bL]
                simp only [↓aops, ↓aop, ↓aWant, ↓aVal, bS, bA, AV.flat, AV.cl, AV.one, Value.oneCell', thenQ, blockQ, noGotoQ, ↓reduceIte, Nat.reduceEqDiff, reduceCtorEq, tyX]
                refine hK32 _ ?_
                try clear hK32 K32
                refine AWp_ret ?_
                try simp only [thenQ, blockQ, noGotoQ, retQ, aRes, tupOf, bS, bA]
                refine Le.of_eq (congrArg (fun b => AV.v (.bool b)) ?_)
                rw [Bool.eq_iff_iff]
                simp only [okN, decide_eq_true_eq, beq_iff_eq, Bool.false_eq_true, beq_eq_false_iff_ne, ne_eq, decide_eq_false_iff_not, false_iff, true_iff, and_true, true_and] at *
                try omega
              · simp only [List.set_cons_zero, List.set_cons_succ]
                refine aops_chunk 3 fun C38 hC38 => ?_
                simp only [bL, ↓aops, ↓aop, ↓aWant, ↓aVal, bS, bA, AV.flat, AV.cl, AV.one, Value.oneCell', thenQ, blockQ, noGotoQ, ↓reduceIte, Nat.reduceEqDiff, reduceCtorEq, undef, aBin, aBool, tyX]
                refine hC38 _ ?_
                try clear hC38 C38
                simp only [bL]
                simp only [↓aops, ↓aop, ↓aWant, ↓aVal, bS, bA, AV.flat, AV.cl, AV.one, Value.oneCell', thenQ, blockQ, noGotoQ, ↓reduceIte, Nat.reduceEqDiff, reduceCtorEq, tyX]
                refine hK32 _ ?_
                try clear hK32 K32
                refine AWp_ret ?_
                try simp only [thenQ, blockQ, noGotoQ, retQ, aRes, tupOf, bS, bA]
                refine Le.of_eq (congrArg (fun b => AV.v (.bool b)) ?_)
                rw [Bool.eq_iff_iff]
                simp only [okN, decide_eq_true_eq, beq_iff_eq, Bool.false_eq_true, beq_eq_false_iff_ne, ne_eq, decide_eq_false_iff_not, false_iff, true_iff, and_true, true_and] at *
                try omega
            · simp only [List.set_cons_zero, List.set_cons_succ]
              refine aops_chunk 3 fun C39 hC39 => ?_
              simp only [bL, ↓aops, ↓aop, ↓aWant, ↓aVal, bS, bA, AV.flat, AV.cl, AV.one, Value.oneCell', thenQ, blockQ, noGotoQ, ↓reduceIte, Nat.reduceEqDiff, reduceCtorEq, undef, aBin, aBool, tyX]
              refine hC39 _ ?_
              try clear hC39 C39
              simp only [bL]
              refine aops_chunk 3 fun C40 hC40 => ?_
              simp only [bL, ↓aops, ↓aop, ↓aWant, ↓aVal, bS, bA, AV.flat, AV.cl, AV.one, Value.oneCell', thenQ, blockQ, noGotoQ, ↓reduceIte, Nat.reduceEqDiff, reduceCtorEq, undef, aBin, tyX]
              refine hC40 _ ?_
              try clear hC40 C40
              simp only [bL]
              simp only [↓aops, ↓aop, ↓aWant, ↓aVal, bS, bA, AV.flat, AV.cl, AV.one, Value.oneCell', thenQ, blockQ, noGotoQ, ↓reduceIte, Nat.reduceEqDiff, reduceCtorEq, aBool, tyX]
              refine hK32 _ ?_
              try clear hK32 K32
              refine AWp_ret ?_
              try simp only [thenQ, blockQ, noGotoQ, retQ, aRes, tupOf, bS, bA]
              refine Le.of_eq (congrArg (fun b => AV.v (.bool b)) ?_)
              rw [Bool.eq_iff_iff]
              simp only [okN, decide_eq_true_eq, beq_iff_eq, Bool.false_eq_true, beq_eq_false_iff_ne, ne_eq, decide_eq_false_iff_not, false_iff, true_iff, and_true, true_and] at *
              try omega
          · skip
            refine AWp_skip ?_
            try simp only [thenQ, blockQ, noGotoQ]
            refine hK4 _ ?_
            try clear hK4 K4
            refine AWp_seqK fun K41 hK41 => ?_
            refine AWp_region ?_
            simp only [↓aops, ↓aop, ↓aWant, ↓aVal, bS, bA, AV.flat, AV.cl, AV.one, Value.oneCell', thenQ, blockQ, noGotoQ, ↓reduceIte, Nat.reduceEqDiff, reduceCtorEq, tyX]
            refine hK41 _ ?_
            try clear hK41 K41
            refine AWp_ret ?_
            try simp only [thenQ, blockQ, noGotoQ, retQ, aRes, tupOf, bS, bA]
            refine Le.of_eq (congrArg (fun b => AV.v (.bool b)) ?_)
            rw [Bool.eq_iff_iff]
            simp only [okN, decide_eq_true_eq, beq_iff_eq, Bool.false_eq_true, beq_eq_false_iff_ne, ne_eq, decide_eq_false_iff_not, false_iff, true_iff, and_true, true_and] at *
            try omega
theorem all_not_of {α : Type} {f : α → Bool} {ps : List α} {i : Nat} {p : α} (hp : ps[i]? = some p) (h : f p = true) : ps.any f = true := List.any_eq_true.2 ⟨p, List.mem_of_getElem? hp, h⟩
theorem any_false_of {α : Type} {f : α → Bool} {ps : List α} (h : ∀ (i : Nat) (p : α), i < ps.length → ps[i]? = some p → f p = false) : ps.any f = false := by
  rw [← Bool.not_eq_true, List.any_eq_true]
  rintro ⟨p, hp, hf⟩
  obtain ⟨i, hi, e⟩ := List.mem_iff_getElem.1 hp
  rw [h i p hi (by rw [List.getElem?_eq_getElem hi, e])] at hf; cases hf
/-- where the first one is -/
def idxI {α : Type} (g : α → Bool) (l : List α) : Int := if l.any g then (l.findIdx g : Int) else -1
theorem idxI_some {α : Type} {g : α → Bool} {l : List α} {i : Nat} {p : α} (hp : l[i]? = some p) (h : g p = true) (hb : ∀ (j : Nat) (q : α), j < i → l[j]? = some q → g q = false) : idxI g l = (i : Int) := by
  have hi : i < l.length := (List.getElem?_eq_some_iff.1 hp).1
  have e : l[i] = p := (List.getElem?_eq_some_iff.1 hp).2
  rw [idxI, if_pos (all_not_of hp h)]
  congr 1
  refine List.findIdx_eq hi |>.2 ⟨by rw [e]; exact h, fun j hj => ?_⟩
  exact hb j _ hj (List.getElem?_eq_getElem (by omega))
theorem idxI_none {α : Type} {g : α → Bool} {l : List α} (hb : ∀ (j : Nat) (q : α), j < l.length → l[j]? = some q → g q = false) : idxI g l = -1 := by
  rw [idxI, any_false_of hb]; rfl
theorem idxI_ge {α : Type} {g : α → Bool} {l : List α} : decide (idxI g l ≥ 0) = l.any g := by
  unfold idxI
  split
  · rename_i h; rw [h]; simp
  · rename_i h; simp at h; simp; exact h
theorem IndexFuncTy_pure (ps : List Ty) (g : Nat) (f : Ty → Bool) (hf : ∀ p ∈ ps, APure Try.prog g [.agg p.cells] (.v (.bool (f p)))) : APure Try.prog 105 [.sl 3 (ps.map Ty.cells), .clo g []] (.v (.int .i64 (idxI f ps))) := by
  refine APure.mkL (.cons (Ty.dataSl ps) (.cons (.clo (fun _ h => by cases h)) .nil)) (.v _) ?_
  refine ACalls_intro Try.func105 (by kernel_rfl) rfl (by rw [Try.ntmps105]; simp) (fun hm => ?_)
  simp only [Try.ntmps105, Try.results105, List.length_cons, List.length_nil, Nat.reduceAdd, Nat.reduceSub, List.replicate_succ, List.replicate_zero, List.cons_append, List.nil_append]
  have hm1 := hm.len (sz := 3) (xs := ps.map Ty.cells) (by simp)
  rw [List.length_map] at hm1
  have hm2 : ∀ i : Nat, i < ps.length → IntKind.i64.wrap ((i : Int) + 1) = (i : Int) + 1 := fun i hi => wrap_in (by omega) (by simp only [maxLen] at hm1; omega)
  refine AWp_seqK fun K1 hK1 => ?_
  refine AWp_region ?_
  simp only [↓aops, ↓aop, ↓aWant, ↓aVal, bS, bA, AV.flat, AV.cl, AV.one, Value.oneCell', thenQ, blockQ, noGotoQ, ↓reduceIte, Nat.reduceEqDiff, reduceCtorEq, tyX]
  refine hK1 _ ?_
  try clear hK1 K1
  refine AWp_seqK fun K2 hK2 => ?_
  refine AWp_seqK fun K3 hK3 => ?_
  refine AWp_region ?_
  simp only [↓aops, ↓aop, ↓aWant, ↓aVal, bS, bA, AV.flat, AV.cl, AV.one, Value.oneCell', thenQ, blockQ, noGotoQ, ↓reduceIte, Nat.reduceEqDiff, reduceCtorEq, getO, aLenX, aLen, ln22, List.length_map, tyX]
  refine hK3 _ ?_
  try clear hK3 K3
  refine AWp_block ?_
  refine AWp_loopM (σ := Nat) [true, true, false, false, false, false, false, true, true, false, false, false, false, false, false, false, false, false, false] (fun s => s ≤ ps.length ∧ ∀ (i : Nat) (p : Ty), i < s → ps[i]? = some p → f p = false) (fun s => [(8, .v (.int .i64 (s : Int)))]) (fun s => []) (fun s => ps.length - s) 0 (⟨by omega, fun i p hi => by omega⟩) ?_ (fun s hs => ?_)
  · skip
    simp only [maskL, setsL, putsO, putO, bA, Nat.reduceEqDiff, ↓reduceIte]
    exact Weak.mk (by simp only [LeL, Le.refl, Le.any, Le.slNil, and_self, Int.natCast_add, Int.cast_ofNat_Int, Int.natCast_one]) (fun _ _ h => h) rfl rfl
  simp only [maskL, setsL, putsO, putO, bA, Nat.reduceEqDiff, ↓reduceIte]
  refine AWp_seqK fun K4 hK4 => ?_
  refine AWp_region ?_
  simp only [↓aops, ↓aop, ↓aWant, ↓aVal, bS, bA, AV.flat, AV.cl, AV.one, Value.oneCell', thenQ, blockQ, noGotoQ, ↓reduceIte, Nat.reduceEqDiff, reduceCtorEq, aBin, tyX]
  refine hK4 _ ?_
  try clear hK4 K4
  refine AWp_seqK fun K5 hK5 => ?_
  refine AWp_cond rfl (fun hb9 => ?_) (fun hb9 => ?_)
  · skip
    have hk : s < ps.length := by simpa using hb9
    obtain ⟨p, hp⟩ : ∃ p, ps[s]? = some p := ⟨_, List.getElem?_eq_getElem hk⟩
    have hw := hm2 s hk
    refine AWp_skip ?_
    try simp only [thenQ, blockQ, noGotoQ]
    refine hK5 _ ?_
    try clear hK5 K5
    refine AWp_seqK fun K6 hK6 => ?_
    refine AWp_block ?_
    refine AWp_seqK fun K7 hK7 => ?_
    refine AWp_region ?_
    simp only [↓aops, ↓aop, ↓aWant, ↓aVal, bS, bA, AV.flat, AV.cl, AV.one, Value.oneCell', thenQ, blockQ, noGotoQ, ↓reduceIte, Nat.reduceEqDiff, reduceCtorEq, tyX, hk, getD_map_cells hp, Int.natCast_add, Int.natCast_one, hw]
    refine hK7 _ ?_
    try clear hK7 K7
    refine AWp_seqK fun K8 hK8 => ?_
    refine AWp_region ?_
    refine aops_chunk 4 fun C9 hC9 => ?_
    simp only [bL, ↓aops, ↓aop, ↓aWant, ↓aVal, bS, bA, AV.flat, AV.cl, AV.one, Value.oneCell', thenQ, blockQ, noGotoQ, ↓reduceIte, Nat.reduceEqDiff, reduceCtorEq, getO, aIndexA, es22, Int.natCast_nonneg, Int.ofNat_lt, Int.toNat_natCast, List.length_map, Int.le_refl, Int.toNat_zero, Int.toNat_one, Int.reduceLE, tyX, hk, getD_map_cells hp, Int.natCast_add, Int.natCast_one, hw]
    refine hC9 _ ?_
    try clear hC9 C9
    simp only [bL]
    refine aops_chunk 1 fun C10 hC10 => ?_
    simp only [bL, ↓aops, ↓aop, ↓aWant, ↓aVal, bS, bA, AV.flat, AV.cl, AV.one, Value.oneCell', thenQ, blockQ, noGotoQ, ↓reduceIte, Nat.reduceEqDiff, reduceCtorEq, aLoad, ti32, getO, pack, Nat.reduceAdd, Nat.reduceLeDiff, tyX, hk, getD_map_cells hp, Int.natCast_add, Int.natCast_one, hw]
    refine hC10 _ ?_
    try clear hC10 C10
    simp only [bL]
    simp only [↓aops, ↓aop, ↓aWant, ↓aVal, bS, bA, AV.flat, AV.cl, AV.one, Value.oneCell', thenQ, blockQ, noGotoQ, ↓reduceIte, Nat.reduceEqDiff, reduceCtorEq, aCallV, bL, tyX, hk, getD_map_cells hp, Int.natCast_add, Int.natCast_one, hw]
    refine APure.call (hf p (List.mem_of_getElem? hp)) ?_
    try simp only [bS, bA, thenQ, blockQ, noGotoQ]
    refine hK8 _ ?_
    try clear hK8 K8
    refine AWp_cond rfl (fun hb16 => ?_) (fun hb16 => ?_)
    · skip
      refine AWp_seqK fun K11 hK11 => ?_
      refine AWp_region ?_
      simp only [↓aops, ↓aop, ↓aWant, ↓aVal, bS, bA, AV.flat, AV.cl, AV.one, Value.oneCell', thenQ, blockQ, noGotoQ, ↓reduceIte, Nat.reduceEqDiff, reduceCtorEq, tyX, hk, getD_map_cells hp, Int.natCast_add, Int.natCast_one, hw]
      refine hK11 _ ?_
      try clear hK11 K11
      refine AWp_ret ?_
      try simp only [thenQ, blockQ, noGotoQ, retQ, aRes, tupOf, bS, bA]
      refine Le.of_eq (congrArg (fun n => AV.v (.int .i64 n)) ?_)
      first | (rw [idxI_some hp (by exact hb16) hs.2]; done) | (rw [idxI_none (fun i p hi h1 => hs.2 i p (by omega) h1)]; done)
    · skip
      refine AWp_skip ?_
      try simp only [thenQ, blockQ, noGotoQ]
      refine hK6 _ ?_
      try clear hK6 K6
      refine AWp_region ?_
      simp only [↓aops, ↓aop, ↓aWant, ↓aVal, bS, bA, AV.flat, AV.cl, AV.one, Value.oneCell', thenQ, blockQ, noGotoQ, ↓reduceIte, Nat.reduceEqDiff, reduceCtorEq, aBin, tyX, hk, getD_map_cells hp, Int.natCast_add, Int.natCast_one, hw]
      refine ⟨(s + 1), ⟨by omega, fun i p' hi h1 => (by rcases Nat.lt_or_ge i s with h3 | h3 <;> first | exact hs.2 i p' h3 h1 | (obtain rfl : i = s := (by omega); rw [hp] at h1; cases h1; exact hb16))⟩, by omega, ?_⟩
      simp only [maskL, setsL, putsO, putO, bA, Nat.reduceEqDiff, ↓reduceIte, hk, getD_map_cells hp, Int.natCast_add, Int.natCast_one, hw]
      exact Weak.mk (by simp only [LeL, Le.refl, Le.any, Le.slNil, and_self, Int.natCast_add, Int.cast_ofNat_Int, Int.natCast_one]) (fun _ _ h => h) rfl rfl
  · skip
    have hk : s = ps.length := by have := hs.1; simp at hb9; omega
    refine AWp_exit ?_
    simp only [thenQ, blockQ, noGotoQ, bA, Nat.reduceEqDiff, ↓reduceIte]
    refine hK2 _ ?_
    try clear hK2 K2
    refine AWp_seqK fun K12 hK12 => ?_
    refine AWp_region ?_
    simp only [↓aops, ↓aop, ↓aWant, ↓aVal, bS, bA, AV.flat, AV.cl, AV.one, Value.oneCell', thenQ, blockQ, noGotoQ, ↓reduceIte, Nat.reduceEqDiff, reduceCtorEq, tyX]
    refine hK12 _ ?_
    try clear hK12 K12
    refine AWp_ret ?_
    try simp only [thenQ, blockQ, noGotoQ, retQ, aRes, tupOf, bS, bA]
    refine Le.of_eq (congrArg (fun n => AV.v (.int .i64 n)) ?_)
    first | (rw [idxI_some hp (by exact hb16) hs.2]; done) | (rw [idxI_none (fun i p hi h1 => hs.2 i p (by omega) h1)]; done)
theorem ContainsFuncTy_pure (ps : List Ty) (g : Nat) (f : Ty → Bool) (hf : ∀ p ∈ ps, APure Try.prog g [.agg p.cells] (.v (.bool (f p)))) : APure Try.prog 81 [.sl 3 (ps.map Ty.cells), .clo g []] (.v (.bool (ps.any f))) := by
  refine APure.mkL (.cons (Ty.dataSl ps) (.cons (.clo (fun _ h => by cases h)) .nil)) (.v _) ?_
  refine ACalls_intro Try.func81 (by kernel_rfl) rfl (by rw [Try.ntmps81]; simp) (fun hm => ?_)
  simp only [Try.ntmps81, Try.results81, List.length_cons, List.length_nil, Nat.reduceAdd, Nat.reduceSub, List.replicate_succ, List.replicate_zero, List.cons_append, List.nil_append]
  refine AWp_seqK fun K1 hK1 => ?_
  refine AWp_region ?_
  simp only [↓aops, ↓aop, ↓aWant, ↓aVal, bS, bA, AV.flat, AV.cl, AV.one, Value.oneCell', thenQ, blockQ, noGotoQ, ↓reduceIte, Nat.reduceEqDiff, reduceCtorEq, idxI_ge]
  refine hK1 _ ?_
  try clear hK1 K1
  refine AWp_seqK fun K2 hK2 => ?_
  refine AWp_region ?_
  refine aops_chunk 2 fun C3 hC3 => ?_
  simp only [bL, ↓aops, ↓aop, ↓aWant, ↓aVal, bS, bA, AV.flat, AV.cl, AV.one, Value.oneCell', thenQ, blockQ, noGotoQ, ↓reduceIte, Nat.reduceEqDiff, reduceCtorEq, idxI_ge]
  refine hC3 _ ?_
  try clear hC3 C3
  simp only [bL]
  refine aops_chunk 1 fun C4 hC4 => ?_
  simp only [bL, ↓aops, ↓aop, ↓aWant, ↓aVal, bS, bA, AV.flat, AV.cl, AV.one, Value.oneCell', thenQ, blockQ, noGotoQ, ↓reduceIte, Nat.reduceEqDiff, reduceCtorEq, aCallV, idxI_ge]
  refine APure.call (IndexFuncTy_pure ps g f hf) ?_
  try simp only [bS, bA, thenQ, blockQ, noGotoQ]
  refine hC4 _ ?_
  try clear hC4 C4
  simp only [bL]
  simp only [↓aops, ↓aop, ↓aWant, ↓aVal, bS, bA, AV.flat, AV.cl, AV.one, Value.oneCell', thenQ, blockQ, noGotoQ, ↓reduceIte, Nat.reduceEqDiff, reduceCtorEq, aBin, idxI_ge]
  refine hK2 _ ?_
  try clear hK2 K2
  refine AWp_ret ?_
  try simp only [thenQ, blockQ, noGotoQ, retQ, aRes, tupOf, bS, bA]
  exact Le.refl _
theorem Right1_pure {p : Ty} (h : APure Try.prog 55 [.agg p.cells] (.v (.bool p.right))) : APure Try.prog 82 [.agg p.cells] (.v (.bool (!p.right))) := by
  refine APure.mkL (.cons p.dataAgg .nil) (.v _) ?_
  refine ACalls_intro Try.func82 (by kernel_rfl) rfl (by rw [Try.ntmps82]; simp) (fun hm => ?_)
  simp only [Try.ntmps82, Try.results82, List.length_cons, List.length_nil, Nat.reduceAdd, Nat.reduceSub, List.replicate_succ, List.replicate_zero, List.cons_append, List.nil_append]
  refine AWp_seqK fun K1 hK1 => ?_
  refine AWp_region ?_
  simp only [↓aops, ↓aop, ↓aWant, ↓aVal, bS, bA, AV.flat, AV.cl, AV.one, Value.oneCell', thenQ, blockQ, noGotoQ, ↓reduceIte, Nat.reduceEqDiff, reduceCtorEq, tyX]
  refine hK1 _ ?_
  try clear hK1 K1
  refine AWp_seqK fun K2 hK2 => ?_
  refine AWp_region ?_
  refine aops_chunk 1 fun C3 hC3 => ?_
  simp only [bL, ↓aops, ↓aop, ↓aWant, ↓aVal, bS, bA, AV.flat, AV.cl, AV.one, Value.oneCell', thenQ, blockQ, noGotoQ, ↓reduceIte, Nat.reduceEqDiff, reduceCtorEq, aLoad, ti32, getO, pack, Nat.reduceAdd, Nat.reduceLeDiff, tyX]
  refine hC3 _ ?_
  try clear hC3 C3
  simp only [bL]
  refine aops_chunk 1 fun C4 hC4 => ?_
  simp only [bL, ↓aops, ↓aop, ↓aWant, ↓aVal, bS, bA, AV.flat, AV.cl, AV.one, Value.oneCell', thenQ, blockQ, noGotoQ, ↓reduceIte, Nat.reduceEqDiff, reduceCtorEq, aCallV, tyX]
  refine APure.call (h) ?_
  try simp only [bS, bA, thenQ, blockQ, noGotoQ]
  refine hC4 _ ?_
  try clear hC4 C4
  simp only [bL]
  simp only [↓aops, ↓aop, ↓aWant, ↓aVal, bS, bA, AV.flat, AV.cl, AV.one, Value.oneCell', thenQ, blockQ, noGotoQ, ↓reduceIte, Nat.reduceEqDiff, reduceCtorEq, aUn, tyX]
  refine hK2 _ ?_
  try clear hK2 K2
  refine AWp_ret ?_
  try simp only [thenQ, blockQ, noGotoQ, retQ, aRes, tupOf, bS, bA]
  exact Le.refl _
theorem Right_pure : ∀ (T : Ty), APure Try.prog 55 [.agg T.cells] (.v (.bool T.right)) := by
  refine Ty.ind fun T ih => ?_
  refine APure.mkL (.cons T.dataAgg .nil) (.v _) ?_
  refine ACalls_intro Try.func55 (by kernel_rfl) rfl (by rw [Try.ntmps55]; simp) (fun hm => ?_)
  simp only [Try.ntmps55, Try.results55, List.length_cons, List.length_nil, Nat.reduceAdd, Nat.reduceSub, List.replicate_succ, List.replicate_zero, List.cons_append, List.nil_append]
  refine AWp_seqK fun K1 hK1 => ?_
  refine AWp_region ?_
  simp only [↓aops, ↓aop, ↓aWant, ↓aVal, bS, bA, AV.flat, AV.cl, AV.one, Value.oneCell', thenQ, blockQ, noGotoQ, ↓reduceIte, Nat.reduceEqDiff, reduceCtorEq, tyX]
  refine hK1 _ ?_
  try clear hK1 K1
  refine AWp_seqK fun K2 hK2 => ?_
  refine AWp_region ?_
  refine aops_chunk 1 fun C3 hC3 => ?_
  simp only [bL, ↓aops, ↓aop, ↓aWant, ↓aVal, bS, bA, AV.flat, AV.cl, AV.one, Value.oneCell', thenQ, blockQ, noGotoQ, ↓reduceIte, Nat.reduceEqDiff, reduceCtorEq, aLoad, ti32, getO, pack, Nat.reduceAdd, Nat.reduceLeDiff, tyX]
  refine hC3 _ ?_
  try clear hC3 C3
  simp only [bL]
  refine aops_chunk 1 fun C4 hC4 => ?_
  simp only [bL, ↓aops, ↓aop, ↓aWant, ↓aVal, bS, bA, AV.flat, AV.cl, AV.one, Value.oneCell', thenQ, blockQ, noGotoQ, ↓reduceIte, Nat.reduceEqDiff, reduceCtorEq, aCallV, tyX]
  refine APure.call (plain_pure T) ?_
  try simp only [bS, bA, thenQ, blockQ, noGotoQ]
  refine hC4 _ ?_
  try clear hC4 C4
  simp only [bL]
  refine aops_chunk 1 fun C5 hC5 => ?_
  simp only [bL, ↓aops, ↓aop, ↓aWant, ↓aVal, bS, bA, AV.flat, AV.cl, AV.one, Value.oneCell', thenQ, blockQ, noGotoQ, ↓reduceIte, Nat.reduceEqDiff, reduceCtorEq, tyX]
  refine hC5 _ ?_
  try clear hC5 C5
  simp only [bL]
  refine aops_case 5 rfl (fun hc5 => ?_) (fun hc5 => ?_)
  · simp only [List.set_cons_zero, List.set_cons_succ]
    refine aops_chunk 2 fun C6 hC6 => ?_
    simp only [bL, ↓aops, ↓aop, ↓aWant, ↓aVal, bS, bA, AV.flat, AV.cl, AV.one, Value.oneCell', thenQ, blockQ, noGotoQ, ↓reduceIte, Nat.reduceEqDiff, reduceCtorEq, undef, aField, fo32_2, Nat.reduceAdd, aLoad, ti22, getO, pack, Nat.reduceLeDiff, tyX]
    refine hC6 _ ?_
    try clear hC6 C6
    simp only [bL]
    refine aops_chunk 1 fun C7 hC7 => ?_
    simp only [bL, ↓aops, ↓aop, ↓aWant, ↓aVal, bS, bA, AV.flat, AV.cl, AV.one, Value.oneCell', thenQ, blockQ, noGotoQ, ↓reduceIte, Nat.reduceEqDiff, reduceCtorEq, undef, aCallV, tyX]
    refine APure.call (ContainsFuncTy_pure T.ps 82 (fun p => !p.right) (fun p hp => Right1_pure (ih p hp))) ?_
    try simp only [bS, bA, thenQ, blockQ, noGotoQ]
    refine hC7 _ ?_
    try clear hC7 C7
    simp only [bL]
    simp only [↓aops, ↓aop, ↓aWant, ↓aVal, bS, bA, AV.flat, AV.cl, AV.one, Value.oneCell', thenQ, blockQ, noGotoQ, ↓reduceIte, Nat.reduceEqDiff, reduceCtorEq, bL, undef, aUn, aBool, tyX]
    refine hK2 _ ?_
    try clear hK2 K2
    refine AWp_ret ?_
    try simp only [thenQ, blockQ, noGotoQ, retQ, aRes, tupOf, bS, bA]
    refine Le.of_eq (congrArg (fun b => AV.v (.bool b)) ?_)
    rw [Ty.right_eq]
    first | (simp only [hc5]; rfl) | (simp only [hc5, Bool.true_and]; simp [List.not_any_eq_all_not])
  · simp only [List.set_cons_zero, List.set_cons_succ]
    refine aops_chunk 4 fun C8 hC8 => ?_
    simp only [bL, ↓aops, ↓aop, ↓aWant, ↓aVal, bS, bA, AV.flat, AV.cl, AV.one, Value.oneCell', thenQ, blockQ, noGotoQ, ↓reduceIte, Nat.reduceEqDiff, reduceCtorEq, undef, aField, fo32_2, Nat.reduceAdd, aLoad, ti22, getO, pack, Nat.reduceLeDiff, aCallV, aUn, tyX]
    refine hC8 _ ?_
    try clear hC8 C8
    simp only [bL]
    simp only [↓aops, ↓aop, ↓aWant, ↓aVal, bS, bA, AV.flat, AV.cl, AV.one, Value.oneCell', thenQ, blockQ, noGotoQ, ↓reduceIte, Nat.reduceEqDiff, reduceCtorEq, aBool, tyX]
    refine hK2 _ ?_
    try clear hK2 K2
    refine AWp_ret ?_
    try simp only [thenQ, blockQ, noGotoQ, retQ, aRes, tupOf, bS, bA]
    refine Le.of_eq (congrArg (fun b => AV.v (.bool b)) ?_)
    rw [Ty.right_eq]
    first | (simp only [hc5]; rfl) | (simp only [hc5, Bool.true_and]; simp [List.not_any_eq_all_not])
end Go.Proofs.Ytohdoloalolpfaa
