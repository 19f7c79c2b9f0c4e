import Derived.Test.YtohdoloalolpfaaFx
namespace Go.Proofs.Ytohdoloalolpfaa
open Go Go.RowKit
set_option maxRecDepth 100000
set_option maxHeartbeats 1000000
set_option linter.unusedSimpArgs false
set_option linter.unusedVariables false
attribute [local irreducible] aops dRun

theorem Ty.ind {C : Ty → Prop} (h : ∀ T, (∀ p ∈ T.ps, C p) → C T) : ∀ T, C T := by
  have key : ∀ n, ∀ T : Ty, SizeOf.sizeOf T ≤ n → C T := by
    intro n
    induction n with
    | zero => intro T hT; cases T; simp at hT
    | succ n ih =>
      intro T hT
      refine h T (fun p hp => ih p ?_)
      cases T with
      | mk k m ps =>
        have := List.sizeOf_lt_of_mem (show p ∈ ps from hp)
        simp at hT
        omega
  exact fun T => key _ T (Nat.le_refl _)
mutual
def Ty.same : Ty → Ty → Bool
  | .mk k n ps, .mk k' n' ps' => k == k' && n == n' && Ty.sameL ps ps'
def Ty.sameL : List Ty → List Ty → Bool
  | [], [] => true
  | p :: ps, q :: qs => Ty.same p q && Ty.sameL ps qs
  | _, _ => false
end
theorem Ty.same_eq (a b : Ty) : a.same b = (a.k == b.k && a.n == b.n && Ty.sameL a.ps b.ps) := by cases a; cases b; simp [Ty.same, Ty.k, Ty.n, Ty.ps]
theorem Ty.sameL_len : ∀ {ps qs : List Ty}, ps.length ≠ qs.length → Ty.sameL ps qs = false
  | [], [], h => absurd rfl h
  | [], _ :: _, _ => by simp [Ty.sameL]
  | _ :: _, [], _ => by simp [Ty.sameL]
  | p :: ps, q :: qs, h => by simp [Ty.sameL, Ty.sameL_len (ps := ps) (qs := qs) (by simpa using h)]
theorem Ty.sameL_false : ∀ {ps qs : List Ty} {k : Nat} {p q : Ty}, ps[k]? = some p → qs[k]? = some q → p.same q = false → Ty.sameL ps qs = false
  | p :: ps, q :: qs, 0, _, _, h1, h2, h => by simp at h1 h2; subst h1; subst h2; simp [Ty.sameL, h]
  | p :: ps, q :: qs, k + 1, _, _, h1, h2, h => by simp [Ty.sameL, Ty.sameL_false (k := k) (by simpa using h1) (by simpa using h2) h]
  | [], _, _, _, _, h1, _, _ => by simp at h1
  | _ :: _, [], _, _, _, _, h2, _ => by simp at h2
theorem Ty.sameL_true : ∀ {ps qs : List Ty}, ps.length = qs.length → (∀ (k : Nat) (p q : Ty), ps[k]? = some p → qs[k]? = some q → p.same q = true) → Ty.sameL ps qs = true
  | [], [], _, _ => by simp [Ty.sameL]
  | p :: ps, q :: qs, hl, h => by
    have h1 := h 0 p q rfl rfl
    have h2 := Ty.sameL_true (ps := ps) (qs := qs) (by simpa using hl) (fun k p q hp hq => h (k + 1) p q (by simpa using hp) (by simpa using hq))
    simp [Ty.sameL, h1, h2]

theorem Same_pure : ∀ (T1 T2 : Ty), APure Try.prog 15 [.agg T1.cells, .agg T2.cells] (.v (.bool (T1.same T2))) := by
  refine Ty.ind fun T1 ih => ?_
  intro T2
  refine APure.mk (.cons T1.dataAgg (.cons T2.dataAgg .nil)) (.v _) ?_
  refine ACalls_intro Try.func15 (by kernel_rfl) rfl (by rw [Try.ntmps15]; simp) (fun hm => ?_)
  simp only [Try.ntmps15, Try.results15, List.length_cons, List.length_nil, Nat.reduceAdd, Nat.reduceSub, List.replicate_succ, List.replicate_zero, List.cons_append, List.nil_append]
  have hm1 := hm.wide (t := T1) (by simp)
  refine AWp_seqK fun K1 hK1 => ?_
  refine AWp_region ?_
  simp only [↓aops, ↓aop, ↓aWant, ↓aVal, bS, bA, AV.flat, AV.cl, AV.one, Value.oneCell', thenQ, blockQ, noGotoQ, ↓reduceIte, Nat.reduceEqDiff, reduceCtorEq, tyX]
  refine hK1 _ ?_
  try clear hK1 K1
  refine AWp_seqK fun K2 hK2 => ?_
  refine AWp_seqK fun K3 hK3 => ?_
  refine AWp_region ?_
  refine aops_chunk 3 fun C4 hC4 => ?_
  simp only [bL, ↓aops, ↓aop, ↓aWant, ↓aVal, bS, bA, AV.flat, AV.cl, AV.one, Value.oneCell', thenQ, blockQ, noGotoQ, ↓reduceIte, Nat.reduceEqDiff, reduceCtorEq, aField, fo32_0, Nat.reduceAdd, aLoad, ti3, getO, pack, Nat.reduceLeDiff, tyX]
  refine hC4 _ ?_
  try clear hC4 C4
  simp only [bL]
  refine aops_chunk 3 fun C5 hC5 => ?_
  simp only [bL, ↓aops, ↓aop, ↓aWant, ↓aVal, bS, bA, AV.flat, AV.cl, AV.one, Value.oneCell', thenQ, blockQ, noGotoQ, ↓reduceIte, Nat.reduceEqDiff, reduceCtorEq, aLoad, ti3, getO, pack, Nat.reduceAdd, Nat.reduceLeDiff, aBin, tyX]
  refine hC5 _ ?_
  try clear hC5 C5
  simp only [bL]
  refine aops_case 11 rfl (fun hc11 => ?_) (fun hc11 => ?_)
  · simp only [List.set_cons_zero, List.set_cons_succ]
    refine aops_chunk 3 fun C6 hC6 => ?_
    simp only [bL, ↓aops, ↓aop, ↓aWant, ↓aVal, bS, bA, AV.flat, AV.cl, AV.one, Value.oneCell', thenQ, blockQ, noGotoQ, ↓reduceIte, Nat.reduceEqDiff, reduceCtorEq, undef, aField, fo32_1, Nat.reduceAdd, aLoad, ti3, getO, pack, Nat.reduceLeDiff, tyX]
    refine hC6 _ ?_
    try clear hC6 C6
    simp only [bL]
    refine aops_chunk 3 fun C7 hC7 => ?_
    simp only [bL, ↓aops, ↓aop, ↓aWant, ↓aVal, bS, bA, AV.flat, AV.cl, AV.one, Value.oneCell', thenQ, blockQ, noGotoQ, ↓reduceIte, Nat.reduceEqDiff, reduceCtorEq, undef, aLoad, ti3, getO, pack, Nat.reduceAdd, Nat.reduceLeDiff, aBin, aBool, tyX]
    refine hC7 _ ?_
    try clear hC7 C7
    simp only [bL]
    refine aops_chunk 3 fun C8 hC8 => ?_
    simp only [bL, ↓aops, ↓aop, ↓aWant, ↓aVal, bS, bA, AV.flat, AV.cl, AV.one, Value.oneCell', thenQ, blockQ, noGotoQ, ↓reduceIte, Nat.reduceEqDiff, reduceCtorEq, undef, aField, fo32_2, Nat.reduceAdd, aLoad, ti22, getO, pack, Nat.reduceLeDiff, tyX]
    refine hC8 _ ?_
    try clear hC8 C8
    simp only [bL]
    refine aops_chunk 3 fun C9 hC9 => ?_
    simp only [bL, ↓aops, ↓aop, ↓aWant, ↓aVal, bS, bA, AV.flat, AV.cl, AV.one, Value.oneCell', thenQ, blockQ, noGotoQ, ↓reduceIte, Nat.reduceEqDiff, reduceCtorEq, undef, getO, aLenX, aLen, ln22, List.length_map, aField, fo32_2, Nat.reduceAdd, aLoad, ti22, pack, Nat.reduceLeDiff, tyX]
    refine hC9 _ ?_
    try clear hC9 C9
    simp only [bL]
    simp only [↓aops, ↓aop, ↓aWant, ↓aVal, bS, bA, AV.flat, AV.cl, AV.one, Value.oneCell', thenQ, blockQ, noGotoQ, ↓reduceIte, Nat.reduceEqDiff, reduceCtorEq, bL, undef, getO, aLenX, aLen, ln22, List.length_map, aBin, aBool, tyX]
    refine hK3 _ ?_
    try clear hK3 K3
    refine AWp_cond (b := true) (by first | exact rfl | exact congrArg (fun b => AV.v (.bool b)) hb26) (fun _ => ?_) (fun h => (by cases h))
    refine AWp_seqK fun K10 hK10 => ?_
    refine AWp_region ?_
    simp only [↓aops, ↓aop, ↓aWant, ↓aVal, bS, bA, AV.flat, AV.cl, AV.one, Value.oneCell', thenQ, blockQ, noGotoQ, ↓reduceIte, Nat.reduceEqDiff, reduceCtorEq, tyX]
    refine hK10 _ ?_
    try clear hK10 K10
    refine AWp_ret ?_
    try simp only [thenQ, blockQ, noGotoQ, retQ, aRes, tupOf, bS, bA]
    first | (rw [Ty.same_eq]; simp_all; done) | (rw [Ty.same_eq]; simp at hb45; rw [Ty.sameL_false hp hq hb45]; simp; done) | (rw [Ty.same_eq]; simp at hb26; rw [Ty.sameL_len (by omega)]; simp; done) | (rw [Ty.same_eq, Ty.sameL_true e3 (fun i p q h1 h2 => hs.2 i p q (by have := (List.getElem?_eq_some_iff.1 h1).1; omega) h1 h2)]; simp_all; done) | skip
  · simp only [List.set_cons_zero, List.set_cons_succ]
    refine aops_chunk 3 fun C11 hC11 => ?_
    simp only [bL, ↓aops, ↓aop, ↓aWant, ↓aVal, bS, bA, AV.flat, AV.cl, AV.one, Value.oneCell', thenQ, blockQ, noGotoQ, ↓reduceIte, Nat.reduceEqDiff, reduceCtorEq, undef, aField, fo32_1, Nat.reduceAdd, aLoad, ti3, getO, pack, Nat.reduceLeDiff, tyX]
    refine hC11 _ ?_
    try clear hC11 C11
    simp only [bL]
    refine aops_chunk 3 fun C12 hC12 => ?_
    simp only [bL, ↓aops, ↓aop, ↓aWant, ↓aVal, bS, bA, AV.flat, AV.cl, AV.one, Value.oneCell', thenQ, blockQ, noGotoQ, ↓reduceIte, Nat.reduceEqDiff, reduceCtorEq, undef, aLoad, ti3, getO, pack, Nat.reduceAdd, Nat.reduceLeDiff, aBin, aBool, tyX]
    refine hC12 _ ?_
    try clear hC12 C12
    simp only [bL]
    refine aops_chunk 1 fun C13 hC13 => ?_
    simp only [bL, ↓aops, ↓aop, ↓aWant, ↓aVal, bS, bA, AV.flat, AV.cl, AV.one, Value.oneCell', thenQ, blockQ, noGotoQ, ↓reduceIte, Nat.reduceEqDiff, reduceCtorEq, tyX]
    refine hC13 _ ?_
    try clear hC13 C13
    simp only [bL]
    refine aops_case 18 rfl (fun hc18 => ?_) (fun hc18 => ?_)
    · simp only [List.set_cons_zero, List.set_cons_succ]
      refine aops_chunk 3 fun C14 hC14 => ?_
      simp only [bL, ↓aops, ↓aop, ↓aWant, ↓aVal, bS, bA, AV.flat, AV.cl, AV.one, Value.oneCell', thenQ, blockQ, noGotoQ, ↓reduceIte, Nat.reduceEqDiff, reduceCtorEq, undef, aField, fo32_2, Nat.reduceAdd, aLoad, ti22, getO, pack, Nat.reduceLeDiff, aLenX, aLen, ln22, List.length_map, tyX]
      refine hC14 _ ?_
      try clear hC14 C14
      simp only [bL]
      refine aops_chunk 3 fun C15 hC15 => ?_
      simp only [bL, ↓aops, ↓aop, ↓aWant, ↓aVal, bS, bA, AV.flat, AV.cl, AV.one, Value.oneCell', thenQ, blockQ, noGotoQ, ↓reduceIte, Nat.reduceEqDiff, reduceCtorEq, undef, aField, fo32_2, Nat.reduceAdd, aLoad, ti22, getO, pack, Nat.reduceLeDiff, aLenX, aLen, ln22, List.length_map, tyX]
      refine hC15 _ ?_
      try clear hC15 C15
      simp only [bL]
      simp only [↓aops, ↓aop, ↓aWant, ↓aVal, bS, bA, AV.flat, AV.cl, AV.one, Value.oneCell', thenQ, blockQ, noGotoQ, ↓reduceIte, Nat.reduceEqDiff, reduceCtorEq, bL, undef, aBin, aBool, tyX]
      refine hK3 _ ?_
      try clear hK3 K3
      refine AWp_cond (b := true) (by first | exact rfl | exact congrArg (fun b => AV.v (.bool b)) hb26) (fun _ => ?_) (fun h => (by cases h))
      refine AWp_seqK fun K16 hK16 => ?_
      refine AWp_region ?_
      simp only [↓aops, ↓aop, ↓aWant, ↓aVal, bS, bA, AV.flat, AV.cl, AV.one, Value.oneCell', thenQ, blockQ, noGotoQ, ↓reduceIte, Nat.reduceEqDiff, reduceCtorEq, tyX]
      refine hK16 _ ?_
      try clear hK16 K16
      refine AWp_ret ?_
      try simp only [thenQ, blockQ, noGotoQ, retQ, aRes, tupOf, bS, bA]
      first | (rw [Ty.same_eq]; simp_all; done) | (rw [Ty.same_eq]; simp at hb45; rw [Ty.sameL_false hp hq hb45]; simp; done) | (rw [Ty.same_eq]; simp at hb26; rw [Ty.sameL_len (by omega)]; simp; done) | (rw [Ty.same_eq, Ty.sameL_true e3 (fun i p q h1 h2 => hs.2 i p q (by have := (List.getElem?_eq_some_iff.1 h1).1; omega) h1 h2)]; simp_all; done) | skip
    · simp only [List.set_cons_zero, List.set_cons_succ]
      refine aops_chunk 3 fun C17 hC17 => ?_
      simp only [bL, ↓aops, ↓aop, ↓aWant, ↓aVal, bS, bA, AV.flat, AV.cl, AV.one, Value.oneCell', thenQ, blockQ, noGotoQ, ↓reduceIte, Nat.reduceEqDiff, reduceCtorEq, undef, aField, fo32_2, Nat.reduceAdd, aLoad, ti22, getO, pack, Nat.reduceLeDiff, aLenX, aLen, ln22, List.length_map, tyX]
      refine hC17 _ ?_
      try clear hC17 C17
      simp only [bL]
      refine aops_chunk 3 fun C18 hC18 => ?_
      simp only [bL, ↓aops, ↓aop, ↓aWant, ↓aVal, bS, bA, AV.flat, AV.cl, AV.one, Value.oneCell', thenQ, blockQ, noGotoQ, ↓reduceIte, Nat.reduceEqDiff, reduceCtorEq, undef, aField, fo32_2, Nat.reduceAdd, aLoad, ti22, getO, pack, Nat.reduceLeDiff, aLenX, aLen, ln22, List.length_map, tyX]
      refine hC18 _ ?_
      try clear hC18 C18
      simp only [bL]
      simp only [↓aops, ↓aop, ↓aWant, ↓aVal, bS, bA, AV.flat, AV.cl, AV.one, Value.oneCell', thenQ, blockQ, noGotoQ, ↓reduceIte, Nat.reduceEqDiff, reduceCtorEq, bL, undef, aBin, aBool, tyX]
      refine hK3 _ ?_
      try clear hK3 K3
      refine AWp_cond rfl (fun hb26 => ?_) (fun hb26 => ?_)
      · skip
        refine AWp_seqK fun K19 hK19 => ?_
        refine AWp_region ?_
        simp only [↓aops, ↓aop, ↓aWant, ↓aVal, bS, bA, AV.flat, AV.cl, AV.one, Value.oneCell', thenQ, blockQ, noGotoQ, ↓reduceIte, Nat.reduceEqDiff, reduceCtorEq, tyX]
        refine hK19 _ ?_
        try clear hK19 K19
        refine AWp_ret ?_
        try simp only [thenQ, blockQ, noGotoQ, retQ, aRes, tupOf, bS, bA]
        first | (rw [Ty.same_eq]; simp_all; done) | (rw [Ty.same_eq]; simp at hb45; rw [Ty.sameL_false hp hq hb45]; simp; done) | (rw [Ty.same_eq]; simp at hb26; rw [Ty.sameL_len (by omega)]; simp; done) | (rw [Ty.same_eq, Ty.sameL_true e3 (fun i p q h1 h2 => hs.2 i p q (by have := (List.getElem?_eq_some_iff.1 h1).1; omega) h1 h2)]; simp_all; done) | skip
      · skip
        have e3 : T1.ps.length = T2.ps.length   := by simp at hb26; omega
        refine AWp_skip ?_
        try simp only [thenQ, blockQ, noGotoQ]
        refine hK2 _ ?_
        try clear hK2 K2
        refine AWp_seqK fun K20 hK20 => ?_
        refine AWp_seqK fun K21 hK21 => ?_
        refine AWp_region ?_
        simp only [↓aops, ↓aop, ↓aWant, ↓aVal, bS, bA, AV.flat, AV.cl, AV.one, Value.oneCell', thenQ, blockQ, noGotoQ, ↓reduceIte, Nat.reduceEqDiff, reduceCtorEq, tyX]
        refine hK21 _ ?_
        try clear hK21 K21
        refine AWp_block ?_
        refine AWp_loopM (σ := Nat) [false, false, true, true, false, true, false, false, false, false, false, false, false, false, false, false, false, false, false, false, false, false, false, false, false, false, false, false, false, false, false, false, false, false, false, false, false, false, false, false, false, false, false, false, false, false] (fun s => s ≤ T1.ps.length ∧ ∀ (i : Nat) (p q : Ty), i < s → T1.ps[i]? = some p → T2.ps[i]? = some q → p.same q = true) (fun s => [(5, .v (.int .i64 (s : Int)))]) (fun s => []) (fun s => T1.ps.length - s) 0 (⟨by omega, fun i p q hi => by omega⟩) ?_ (fun s hs => ?_)
        · skip
          simp only [maskL, setsL, putsO, putO, bA, Nat.reduceEqDiff, ↓reduceIte]
          exact Weak.mk (by simp only [LeL, Le.refl, Le.any, Le.slNil, and_self, Int.natCast_add, Int.cast_ofNat_Int, Int.natCast_one]) (fun _ _ h => h) rfl rfl
        simp only [maskL, setsL, putsO, putO, bA, Nat.reduceEqDiff, ↓reduceIte]
        refine AWp_seqK fun K22 hK22 => ?_
        refine AWp_seqK fun K23 hK23 => ?_
        refine AWp_region ?_
        refine aops_chunk 3 fun C24 hC24 => ?_
        simp only [bL, ↓aops, ↓aop, ↓aWant, ↓aVal, bS, bA, AV.flat, AV.cl, AV.one, Value.oneCell', thenQ, blockQ, noGotoQ, ↓reduceIte, Nat.reduceEqDiff, reduceCtorEq, aField, fo32_2, Nat.reduceAdd, aLoad, ti22, getO, pack, Nat.reduceLeDiff, tyX]
        refine hC24 _ ?_
        try clear hC24 C24
        simp only [bL]
        simp only [↓aops, ↓aop, ↓aWant, ↓aVal, bS, bA, AV.flat, AV.cl, AV.one, Value.oneCell', thenQ, blockQ, noGotoQ, ↓reduceIte, Nat.reduceEqDiff, reduceCtorEq, getO, aLenX, aLen, ln22, List.length_map, aBin, tyX]
        refine hK23 _ ?_
        try clear hK23 K23
        refine AWp_cond rfl (fun hb31 => ?_) (fun hb31 => ?_)
        · skip
          have hk : s < T1.ps.length := by simpa using hb31
          have hk2 : s < T2.ps.length := by omega
          obtain ⟨p, hp⟩ : ∃ p, T1.ps[s]? = some p := ⟨_, List.getElem?_eq_getElem hk⟩
          obtain ⟨q, hq⟩ : ∃ q, T2.ps[s]? = some q := ⟨_, List.getElem?_eq_getElem hk2⟩
          have hw : IntKind.i64.wrap ((s : Int) + 1) = (s : Int) + 1 := wrap_in (by omega) (by have := hm1.len; simp only [maxLen] at this; omega)
          refine AWp_skip ?_
          try simp only [thenQ, blockQ, noGotoQ]
          refine hK22 _ ?_
          try clear hK22 K22
          refine AWp_seqK fun K25 hK25 => ?_
          refine AWp_block ?_
          refine AWp_seqK fun K26 hK26 => ?_
          refine AWp_drawK 12 mixed (by kernel_rfl) fun K27 hK27 => ?_
          simp only [bL]
          refine dRun_chunk 3 fun C28 hC28 => ?_
          simp only [bL, ↓dRun, ↓dOp, ↓aops, ↓aop, ↓aWant, ↓aVal, bS, bA, AV.flat, AV.cl, AV.one, Value.oneCell', thenQ, blockQ, noGotoQ, ↓reduceIte, Nat.reduceEqDiff, reduceCtorEq, aField, fo32_2, Nat.reduceAdd, aLoad, ti22, getO, pack, Nat.reduceLeDiff, tyX, hk, hk2, getD_map_cells hp, getD_map_cells hq, Int.natCast_add, Int.natCast_one, hw]
          refine hC28 _ ?_
          try clear hC28 C28
          simp only [bL]
          refine dRun_chunk 3 fun C29 hC29 => ?_
          simp only [bL, ↓dRun, ↓dOp, ↓aops, ↓aop, ↓aWant, ↓aVal, bS, bA, AV.flat, AV.cl, AV.one, Value.oneCell', thenQ, blockQ, noGotoQ, ↓reduceIte, Nat.reduceEqDiff, reduceCtorEq, getO, aIndexA, es22, Int.natCast_nonneg, Int.ofNat_lt, Int.toNat_natCast, List.length_map, Int.le_refl, Int.toNat_zero, Int.toNat_one, Int.reduceLE, aLoad, ti32, pack, Nat.reduceAdd, Nat.reduceLeDiff, aField, fo32_2, tyX, hk, hk2, getD_map_cells hp, getD_map_cells hq, Int.natCast_add, Int.natCast_one, hw]
          refine hC29 _ ?_
          try clear hC29 C29
          simp only [bL]
          refine dRun_chunk 3 fun C30 hC30 => ?_
          simp only [bL, ↓dRun, ↓dOp, ↓aops, ↓aop, ↓aWant, ↓aVal, bS, bA, AV.flat, AV.cl, AV.one, Value.oneCell', thenQ, blockQ, noGotoQ, ↓reduceIte, Nat.reduceEqDiff, reduceCtorEq, aLoad, ti22, getO, pack, Nat.reduceAdd, Nat.reduceLeDiff, aIndexA, es22, Int.natCast_nonneg, Int.ofNat_lt, Int.toNat_natCast, List.length_map, Int.le_refl, Int.toNat_zero, Int.toNat_one, Int.reduceLE, tyX, hk, hk2, getD_map_cells hp, getD_map_cells hq, Int.natCast_add, Int.natCast_one, hw]
          refine hC30 _ ?_
          try clear hC30 C30
          simp only [bL]
          refine dRun_chunk 1 fun C31 hC31 => ?_
          simp only [bL, ↓dRun, ↓dOp, ↓aops, ↓aop, ↓aWant, ↓aVal, bS, bA, AV.flat, AV.cl, AV.one, Value.oneCell', thenQ, blockQ, noGotoQ, ↓reduceIte, Nat.reduceEqDiff, reduceCtorEq, aLoad, ti32, getO, pack, Nat.reduceAdd, Nat.reduceLeDiff, tyX, hk, hk2, getD_map_cells hp, getD_map_cells hq, Int.natCast_add, Int.natCast_one, hw]
          refine hC31 _ ?_
          try clear hC31 C31
          simp only [bL]
          refine dRun_chunk 1 fun C32 hC32 => ?_
          simp only [bL, ↓dRun, ↓dOp, ↓aops, ↓aop, ↓aWant, ↓aVal, bS, bA, AV.flat, AV.cl, AV.one, Value.oneCell', thenQ, blockQ, noGotoQ, ↓reduceIte, Nat.reduceEqDiff, reduceCtorEq, aCallV, tyX, hk, hk2, getD_map_cells hp, getD_map_cells hq, Int.natCast_add, Int.natCast_one, hw]
          refine ⟨_, ih p (List.mem_of_getElem? hp) q, ?_⟩
          try simp only [bS, bA, thenQ, blockQ, noGotoQ]
          refine hC32 _ ?_
          try clear hC32 C32
          simp only [bL]
          simp only [↓dRun, ↓dOp, bL, ↓aops, ↓aop, ↓aWant, ↓aVal, bS, bA, AV.flat, AV.cl, AV.one, Value.oneCell', thenQ, blockQ, noGotoQ, ↓reduceIte, Nat.reduceEqDiff, reduceCtorEq, aUn, tyX, hk, hk2, getD_map_cells hp, getD_map_cells hq, Int.natCast_add, Int.natCast_one, hw]
          refine hK27 _ ?_
          try clear hK27 K27
          simp only [bL, aops, thenQ, blockQ, noGotoQ]
          refine hK26 _ ?_
          try clear hK26 K26
          refine AWp_cond rfl (fun hb45 => ?_) (fun hb45 => ?_)
          · skip
            refine AWp_seqK fun K33 hK33 => ?_
            refine AWp_region ?_
            simp only [↓aops, ↓aop, ↓aWant, ↓aVal, bS, bA, AV.flat, AV.cl, AV.one, Value.oneCell', thenQ, blockQ, noGotoQ, ↓reduceIte, Nat.reduceEqDiff, reduceCtorEq, tyX, hk, hk2, getD_map_cells hp, getD_map_cells hq, Int.natCast_add, Int.natCast_one, hw]
            refine hK33 _ ?_
            try clear hK33 K33
            refine AWp_ret ?_
            try simp only [thenQ, blockQ, noGotoQ, retQ, aRes, tupOf, bS, bA]
            first | (rw [Ty.same_eq]; simp_all; done) | (rw [Ty.same_eq]; simp at hb45; rw [Ty.sameL_false hp hq hb45]; simp; done) | (rw [Ty.same_eq]; simp at hb26; rw [Ty.sameL_len (by omega)]; simp; done) | (rw [Ty.same_eq, Ty.sameL_true e3 (fun i p q h1 h2 => hs.2 i p q (by have := (List.getElem?_eq_some_iff.1 h1).1; omega) h1 h2)]; simp_all; done) | skip
          · skip
            refine AWp_skip ?_
            try simp only [thenQ, blockQ, noGotoQ]
            refine hK25 _ ?_
            try clear hK25 K25
            refine AWp_region ?_
            simp only [↓aops, ↓aop, ↓aWant, ↓aVal, bS, bA, AV.flat, AV.cl, AV.one, Value.oneCell', thenQ, blockQ, noGotoQ, ↓reduceIte, Nat.reduceEqDiff, reduceCtorEq, aBin, tyX, hk, hk2, getD_map_cells hp, getD_map_cells hq, Int.natCast_add, Int.natCast_one, hw]
            refine ⟨(s + 1), ⟨by omega, fun i p' q' hi h1 h2 => (by rcases Nat.lt_or_ge i s with h3 | h3 <;> first | exact hs.2 i p' q' h3 h1 h2 | (obtain rfl : i = s := (by omega); rw [hp] at h1; rw [hq] at h2; cases h1; cases h2; simpa using hb45))⟩, by omega, ?_⟩
            simp only [maskL, setsL, putsO, putO, bA, Nat.reduceEqDiff, ↓reduceIte, hk, hk2, getD_map_cells hp, getD_map_cells hq, Int.natCast_add, Int.natCast_one, hw]
            exact Weak.mk (by simp only [LeL, Le.refl, Le.any, Le.slNil, and_self, Int.natCast_add, Int.cast_ofNat_Int, Int.natCast_one]) (fun _ _ h => h) rfl rfl
        · skip
          have hk : s = T1.ps.length := by have := hs.1; simp at hb31; omega
          refine AWp_exit ?_
          simp only [thenQ, blockQ, noGotoQ, bA, Nat.reduceEqDiff, ↓reduceIte]
          refine hK20 _ ?_
          try clear hK20 K20
          refine AWp_seqK fun K34 hK34 => ?_
          refine AWp_region ?_
          simp only [↓aops, ↓aop, ↓aWant, ↓aVal, bS, bA, AV.flat, AV.cl, AV.one, Value.oneCell', thenQ, blockQ, noGotoQ, ↓reduceIte, Nat.reduceEqDiff, reduceCtorEq, tyX]
          refine hK34 _ ?_
          try clear hK34 K34
          refine AWp_ret ?_
          try simp only [thenQ, blockQ, noGotoQ, retQ, aRes, tupOf, bS, bA]
          first | (rw [Ty.same_eq]; simp_all; done) | (rw [Ty.same_eq]; simp at hb45; rw [Ty.sameL_false hp hq hb45]; simp; done) | (rw [Ty.same_eq]; simp at hb26; rw [Ty.sameL_len (by omega)]; simp; done) | (rw [Ty.same_eq, Ty.sameL_true e3 (fun i p q h1 h2 => hs.2 i p q (by have := (List.getElem?_eq_some_iff.1 h1).1; omega) h1 h2)]; simp_all; done) | skip
end Go.Proofs.Ytohdoloalolpfaa
