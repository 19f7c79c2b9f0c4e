import Derived.Test.YtohdoloalolpfaaSizes
namespace Go.Proofs.Ytohdoloalolpfaa
open Go Go.RowKit
set_option maxRecDepth 100000
set_option maxHeartbeats 1000000
set_option linter.unusedSimpArgs false
set_option linter.unusedVariables false
attribute [local irreducible] aops dRun
abbrev intC (x : Int) : List AV := [.v (.int .i64 x)]
theorem dataInts (l : List Int) : Data (.sl 1 (l.map intC)) := .sl fun x hx => by
  obtain ⟨y, _, rfl⟩ := List.mem_map.1 hx
  exact .cons (.v _) .nil
theorem ints_one (l : List Int) : ((l.map intC).all fun y => y.all AV.one) = true := by
  rw [List.all_eq_true]
  intro y hy
  obtain ⟨r, _, rfl⟩ := List.mem_map.1 hy
  rfl
theorem und_ints {n : Nat} {l : List Int} : Und n (.sl 1 (l.map intC)) := .data (dataInts l)
/-- a node of the document's graph -/
structure RNode where
  t : Ty
  parts : List Int
def RNode.cells (r : RNode) : List AV := [.v (.int .i64 r.t.k), .v (.int .i64 r.t.n), .sl 3 (r.t.ps.map Ty.cells), .sl 1 (r.parts.map intC)]
theorem Ty.refold (t : Ty) : AV.agg [.v (.int .i64 t.k), .v (.int .i64 t.n), .sl 3 (t.ps.map Ty.cells)] = .agg t.cells := by rw [t.cells_eq]
theorem RNode.data (r : RNode) : DataL r.cells := .cons (.v _) (.cons (.v _) (.cons (Ty.dataSl _) (.cons (dataInts _) .nil)))
theorem RNode.dataSl (g : List RNode) : Data (.sl 4 (g.map RNode.cells)) := .sl fun x hx => by
  obtain ⟨y, _, rfl⟩ := List.mem_map.1 hx
  exact y.data
def RNode.isVar (n : Int) (r : RNode) : Bool := r.t.k == 1 && r.t.n == n
mutual
def Ty.radd : Ty → List RNode → List RNode × Int
  | .mk k n ps, g =>
    if k = 1 ∧ 0 ≤ idxI (RNode.isVar n) g then (g, idxI (RNode.isVar n) g)
    else
      let r := Ty.raddL ps g []
      (r.1 ++ [⟨.mk k n ps, r.2⟩], (r.1.length : Int))
def Ty.raddL : List Ty → List RNode → List Int → List RNode × List Int
  | [], g, l => (g, l)
  | p :: ps, g, l =>
    let r := Ty.radd p g
    Ty.raddL ps r.1 (l ++ [r.2])
end
theorem Ints_pure (A B : List Int) : APure Try.prog 21 [.sl 1 (A.map intC), .sl 1 (B.map intC)] (.v (.bool (decide (A = B)))) := by
  refine APure.mkL (.cons (dataInts A) (.cons (dataInts B) .nil)) (.v _) ?_
  refine ACalls_intro Try.func21 (by kernel_rfl) rfl (by rw [Try.ntmps21]; simp) (fun hm => ?_)
  simp only [Try.ntmps21, Try.results21, List.length_cons, List.length_nil, Nat.reduceAdd, Nat.reduceSub, List.replicate_succ, List.replicate_zero, List.cons_append, List.nil_append]
  have hm1 := hm.len (sz := 1) (xs := A.map intC) (by simp)
  rw [List.length_map] at hm1
  refine AWp_seqK fun K1 hK1 => ?_
  refine AWp_region ?_
  simp only [↓aops, ↓aop, ↓aWant, ↓aVal, bS, bA, AV.flat, AV.cl, AV.one, Value.oneCell', thenQ, blockQ, noGotoQ, ↓reduceIte, Nat.reduceEqDiff, reduceCtorEq, tyX]
  refine hK1 _ ?_
  try clear hK1 K1
  refine AWp_seqK fun K2 hK2 => ?_
  refine AWp_seqK fun K3 hK3 => ?_
  refine AWp_region ?_
  refine aops_chunk 4 fun C4 hC4 => ?_
  simp only [bL, ↓aops, ↓aop, ↓aWant, ↓aVal, bS, bA, AV.flat, AV.cl, AV.one, Value.oneCell', thenQ, blockQ, noGotoQ, ↓reduceIte, Nat.reduceEqDiff, reduceCtorEq, getO, aLenX, aLen, ln28, List.length_map, tyX]
  refine hC4 _ ?_
  try clear hC4 C4
  simp only [bL]
  simp only [↓aops, ↓aop, ↓aWant, ↓aVal, bS, bA, AV.flat, AV.cl, AV.one, Value.oneCell', thenQ, blockQ, noGotoQ, ↓reduceIte, Nat.reduceEqDiff, reduceCtorEq, aBin, tyX]
  refine hK3 _ ?_
  try clear hK3 K3
  refine AWp_cond rfl (fun hb10 => ?_) (fun hb10 => ?_)
  · skip
    refine AWp_seqK fun K5 hK5 => ?_
    refine AWp_region ?_
    simp only [↓aops, ↓aop, ↓aWant, ↓aVal, bS, bA, AV.flat, AV.cl, AV.one, Value.oneCell', thenQ, blockQ, noGotoQ, ↓reduceIte, Nat.reduceEqDiff, reduceCtorEq, tyX]
    refine hK5 _ ?_
    try clear hK5 K5
    refine AWp_ret ?_
    try simp only [thenQ, blockQ, noGotoQ, retQ, aRes, tupOf, bS, bA]
    refine Le.of_eq (congrArg (fun b => AV.v (.bool b)) ?_)
    symm
    first | (rw [decide_eq_false_iff_not]; intro e; subst e; simp at hb10; done) | (rw [decide_eq_false_iff_not]; intro e; subst e; rw [hp] at hq; cases hq; simp at hb25; done) | (rw [decide_eq_true_eq]; apply List.ext_getElem hAB; intro i h1 h2; exact hs.2 i _ _ (by omega) (List.getElem?_eq_getElem h1) (List.getElem?_eq_getElem h2))
  · skip
    have hAB : A.length = B.length := by simp at hb10; omega
    refine AWp_skip ?_
    try simp only [thenQ, blockQ, noGotoQ]
    refine hK2 _ ?_
    try clear hK2 K2
    refine AWp_seqK fun K6 hK6 => ?_
    refine AWp_seqK fun K7 hK7 => ?_
    refine AWp_region ?_
    simp only [↓aops, ↓aop, ↓aWant, ↓aVal, bS, bA, AV.flat, AV.cl, AV.one, Value.oneCell', thenQ, blockQ, noGotoQ, ↓reduceIte, Nat.reduceEqDiff, reduceCtorEq, tyX]
    refine hK7 _ ?_
    try clear hK7 K7
    refine AWp_block ?_
    refine AWp_loopM (σ := Nat) [true, true, false, false, false, true, false, false, false, false, false, false, false, false, false, false, false, false, false, false, false, false, false, false, false, false] (fun s => s ≤ A.length ∧ ∀ (i : Nat) (p q : Int), i < s → A[i]? = some p → B[i]? = some q → p = q) (fun s => [(5, .v (.int .i64 (s : Int)))]) (fun s => []) (fun s => A.length - s) 0 (⟨by omega, fun i p q hi => by omega⟩) ?_ (fun s hs => ?_)
    · skip
      simp only [maskL, setsL, putsO, putO, bA, Nat.reduceEqDiff, ↓reduceIte]
      exact Weak.mk (by simp only [LeL, Le.refl, Le.any, Le.slNil, and_self, Int.natCast_add, Int.cast_ofNat_Int, Int.natCast_one]) (fun _ _ h => h) rfl rfl
    simp only [maskL, setsL, putsO, putO, bA, Nat.reduceEqDiff, ↓reduceIte]
    refine AWp_seqK fun K8 hK8 => ?_
    refine AWp_seqK fun K9 hK9 => ?_
    refine AWp_region ?_
    simp only [↓aops, ↓aop, ↓aWant, ↓aVal, bS, bA, AV.flat, AV.cl, AV.one, Value.oneCell', thenQ, blockQ, noGotoQ, ↓reduceIte, Nat.reduceEqDiff, reduceCtorEq, getO, aLenX, aLen, ln28, List.length_map, aBin, tyX]
    refine hK9 _ ?_
    try clear hK9 K9
    refine AWp_cond rfl (fun hb14 => ?_) (fun hb14 => ?_)
    · skip
      have hk : s < A.length := by simpa using hb14
      obtain ⟨p, hp⟩ : ∃ p, A[s]? = some p := ⟨_, List.getElem?_eq_getElem hk⟩
      have hw : IntKind.i64.wrap ((s : Int) + 1) = (s : Int) + 1 := wrap_in (by omega) (by simp only [maxLen] at hm1; omega)
      have hk2 : s < B.length := by omega
      obtain ⟨q, hq⟩ : ∃ q, B[s]? = some q := ⟨_, List.getElem?_eq_getElem hk2⟩
      refine AWp_skip ?_
      try simp only [thenQ, blockQ, noGotoQ]
      refine hK8 _ ?_
      try clear hK8 K8
      refine AWp_seqK fun K10 hK10 => ?_
      refine AWp_block ?_
      refine AWp_seqK fun K11 hK11 => ?_
      refine AWp_drawK 9 mixed (by kernel_rfl) fun K12 hK12 => ?_
      simp only [bL]
      refine dRun_chunk 4 fun C13 hC13 => ?_
      simp only [bL, ↓dRun, ↓dOp, ↓aops, ↓aop, ↓aWant, ↓aVal, bS, bA, AV.flat, AV.cl, AV.one, Value.oneCell', thenQ, blockQ, noGotoQ, ↓reduceIte, Nat.reduceEqDiff, reduceCtorEq, getO, aIndexA, es28, Int.natCast_nonneg, Int.ofNat_lt, Int.toNat_natCast, List.length_map, Int.le_refl, Int.toNat_zero, Int.toNat_one, Int.reduceLE, aLoad, ti3, pack, Nat.reduceAdd, Nat.reduceLeDiff, tyX, hk, getD_map_cells hp, Int.natCast_add, Int.natCast_one, hw, hk2, getD_map_cells hq, intC]
      refine hC13 _ ?_
      try clear hC13 C13
      simp only [bL]
      refine dRun_chunk 4 fun C14 hC14 => ?_
      simp only [bL, ↓dRun, ↓dOp, ↓aops, ↓aop, ↓aWant, ↓aVal, bS, bA, AV.flat, AV.cl, AV.one, Value.oneCell', thenQ, blockQ, noGotoQ, ↓reduceIte, Nat.reduceEqDiff, reduceCtorEq, getO, aIndexA, es28, Int.natCast_nonneg, Int.ofNat_lt, Int.toNat_natCast, List.length_map, Int.le_refl, Int.toNat_zero, Int.toNat_one, Int.reduceLE, aLoad, ti3, pack, Nat.reduceAdd, Nat.reduceLeDiff, tyX, hk, getD_map_cells hp, Int.natCast_add, Int.natCast_one, hw, hk2, getD_map_cells hq, intC]
      refine hC14 _ ?_
      try clear hC14 C14
      simp only [bL]
      simp only [↓dRun, ↓dOp, bL, ↓aops, ↓aop, ↓aWant, ↓aVal, bS, bA, AV.flat, AV.cl, AV.one, Value.oneCell', thenQ, blockQ, noGotoQ, ↓reduceIte, Nat.reduceEqDiff, reduceCtorEq, aBin, tyX, hk, getD_map_cells hp, Int.natCast_add, Int.natCast_one, hw, hk2, getD_map_cells hq, intC]
      refine hK12 _ ?_
      try clear hK12 K12
      simp only [bL, aops, thenQ, blockQ, noGotoQ]
      refine hK11 _ ?_
      try clear hK11 K11
      refine AWp_cond rfl (fun hb25 => ?_) (fun hb25 => ?_)
      · skip
        refine AWp_seqK fun K15 hK15 => ?_
        refine AWp_region ?_
        simp only [↓aops, ↓aop, ↓aWant, ↓aVal, bS, bA, AV.flat, AV.cl, AV.one, Value.oneCell', thenQ, blockQ, noGotoQ, ↓reduceIte, Nat.reduceEqDiff, reduceCtorEq, tyX, hk, getD_map_cells hp, Int.natCast_add, Int.natCast_one, hw, hk2, getD_map_cells hq, intC]
        refine hK15 _ ?_
        try clear hK15 K15
        refine AWp_ret ?_
        try simp only [thenQ, blockQ, noGotoQ, retQ, aRes, tupOf, bS, bA]
        refine Le.of_eq (congrArg (fun b => AV.v (.bool b)) ?_)
        symm
        first | (rw [decide_eq_false_iff_not]; intro e; subst e; simp at hb10; done) | (rw [decide_eq_false_iff_not]; intro e; subst e; rw [hp] at hq; cases hq; simp at hb25; done) | (rw [decide_eq_true_eq]; apply List.ext_getElem hAB; intro i h1 h2; exact hs.2 i _ _ (by omega) (List.getElem?_eq_getElem h1) (List.getElem?_eq_getElem h2))
      · skip
        refine AWp_skip ?_
        try simp only [thenQ, blockQ, noGotoQ]
        refine hK10 _ ?_
        try clear hK10 K10
        refine AWp_region ?_
        simp only [↓aops, ↓aop, ↓aWant, ↓aVal, bS, bA, AV.flat, AV.cl, AV.one, Value.oneCell', thenQ, blockQ, noGotoQ, ↓reduceIte, Nat.reduceEqDiff, reduceCtorEq, aBin, tyX, hk, getD_map_cells hp, Int.natCast_add, Int.natCast_one, hw, hk2, getD_map_cells hq, intC]
        refine ⟨(s + 1), ⟨by omega, fun i p' q' hi h1 h2 => (by rcases Nat.lt_or_ge i s with h3 | h3 <;> first | exact hs.2 i p' q' h3 h1 h2 | (obtain rfl : i = s := (by omega); rw [hp] at h1; rw [hq] at h2; cases h1; cases h2; simpa using hb25))⟩, by omega, ?_⟩
        simp only [maskL, setsL, putsO, putO, bA, Nat.reduceEqDiff, ↓reduceIte, hk, getD_map_cells hp, Int.natCast_add, Int.natCast_one, hw, hk2, getD_map_cells hq, intC]
        exact Weak.mk (by simp only [LeL, Le.refl, Le.any, Le.slNil, and_self, Int.natCast_add, Int.cast_ofNat_Int, Int.natCast_one]) (fun _ _ h => h) rfl rfl
    · skip
      have hk : s = A.length := by have := hs.1; simp at hb14; omega
      refine AWp_exit ?_
      simp only [thenQ, blockQ, noGotoQ, bA, Nat.reduceEqDiff, ↓reduceIte]
      refine hK6 _ ?_
      try clear hK6 K6
      refine AWp_seqK fun K16 hK16 => ?_
      refine AWp_region ?_
      simp only [↓aops, ↓aop, ↓aWant, ↓aVal, bS, bA, AV.flat, AV.cl, AV.one, Value.oneCell', thenQ, blockQ, noGotoQ, ↓reduceIte, Nat.reduceEqDiff, reduceCtorEq, tyX]
      refine hK16 _ ?_
      try clear hK16 K16
      refine AWp_ret ?_
      try simp only [thenQ, blockQ, noGotoQ, retQ, aRes, tupOf, bS, bA]
      refine Le.of_eq (congrArg (fun b => AV.v (.bool b)) ?_)
      symm
      first | (rw [decide_eq_false_iff_not]; intro e; subst e; simp at hb10; done) | (rw [decide_eq_false_iff_not]; intro e; subst e; rw [hp] at hq; cases hq; simp at hb25; done) | (rw [decide_eq_true_eq]; apply List.ext_getElem hAB; intro i h1 h2; exact hs.2 i _ _ (by omega) (List.getElem?_eq_getElem h1) (List.getElem?_eq_getElem h2))
theorem RVar_pure (g : List RNode) (n : Int) : APure Try.prog 27 [.sl 4 (g.map RNode.cells), .v (.int .i64 n)] (.v (.int .i64 (idxI (RNode.isVar n) g))) := by
  refine APure.mkL (.cons (RNode.dataSl g) (.cons (.v _) .nil)) (.v _) ?_
  refine ACalls_intro Try.func27 (by kernel_rfl) rfl (by rw [Try.ntmps27]; simp) (fun hm => ?_)
  simp only [Try.ntmps27, Try.results27, List.length_cons, List.length_nil, Nat.reduceAdd, Nat.reduceSub, List.replicate_succ, List.replicate_zero, List.cons_append, List.nil_append]
  have hm1 := hm.len (sz := 4) (xs := g.map RNode.cells) (by simp)
  rw [List.length_map] at hm1
  refine AWp_seqK fun K1 hK1 => ?_
  refine AWp_region ?_
  simp only [↓aops, ↓aop, ↓aWant, ↓aVal, bS, bA, AV.flat, AV.cl, AV.one, Value.oneCell', thenQ, blockQ, noGotoQ, ↓reduceIte, Nat.reduceEqDiff, reduceCtorEq, tyX]
  refine hK1 _ ?_
  try clear hK1 K1
  refine AWp_seqK fun K2 hK2 => ?_
  refine AWp_seqK fun K3 hK3 => ?_
  refine AWp_region ?_
  simp only [↓aops, ↓aop, ↓aWant, ↓aVal, bS, bA, AV.flat, AV.cl, AV.one, Value.oneCell', thenQ, blockQ, noGotoQ, ↓reduceIte, Nat.reduceEqDiff, reduceCtorEq, tyX]
  refine hK3 _ ?_
  try clear hK3 K3
  refine AWp_block ?_
  refine AWp_loopM (σ := Nat) [true, true, false, false, false, true, false, false, false, false, false, false, false, false, false, false, false, false, false, false, false, false, false, false, false, false, false, false, false, false] (fun s => s ≤ g.length ∧ ∀ (i : Nat) (p : RNode), i < s → g[i]? = some p → RNode.isVar n p = false) (fun s => [(5, .v (.int .i64 (s : Int)))]) (fun s => []) (fun s => g.length - s) 0 (⟨by omega, fun i p hi => by omega⟩) ?_ (fun s hs => ?_)
  · skip
    simp only [maskL, setsL, putsO, putO, bA, Nat.reduceEqDiff, ↓reduceIte]
    exact Weak.mk (by simp only [LeL, Le.refl, Le.any, Le.slNil, and_self, Int.natCast_add, Int.cast_ofNat_Int, Int.natCast_one]) (fun _ _ h => h) rfl rfl
  simp only [maskL, setsL, putsO, putO, bA, Nat.reduceEqDiff, ↓reduceIte]
  refine AWp_seqK fun K4 hK4 => ?_
  refine AWp_seqK fun K5 hK5 => ?_
  refine AWp_region ?_
  simp only [↓aops, ↓aop, ↓aWant, ↓aVal, bS, bA, AV.flat, AV.cl, AV.one, Value.oneCell', thenQ, blockQ, noGotoQ, ↓reduceIte, Nat.reduceEqDiff, reduceCtorEq, getO, aLenX, aLen, ln27, List.length_map, aBin, tyX]
  refine hK5 _ ?_
  try clear hK5 K5
  refine AWp_cond rfl (fun hb9 => ?_) (fun hb9 => ?_)
  · skip
    have hk : s < g.length := by simpa using hb9
    obtain ⟨p, hp⟩ : ∃ p, g[s]? = some p := ⟨_, List.getElem?_eq_getElem hk⟩
    have hw : IntKind.i64.wrap ((s : Int) + 1) = (s : Int) + 1 := wrap_in (by omega) (by simp only [maxLen] at hm1; omega)
    refine AWp_skip ?_
    try simp only [thenQ, blockQ, noGotoQ]
    refine hK4 _ ?_
    try clear hK4 K4
    refine AWp_seqK fun K6 hK6 => ?_
    refine AWp_block ?_
    refine AWp_joinM [true, true, false, false, false, true, false, false, false, false, false, false, false, false, false, false, false, false, false, false, false, false, false, false, false, false, false, false, true, false] ([(28, .v (.bool (RNode.isVar n p)))]) ([]) ?_ ?_
    · skip
      refine AWp_region ?_
      refine aops_chunk 4 fun C7 hC7 => ?_
      simp only [bL, ↓aops, ↓aop, ↓aWant, ↓aVal, bS, bA, AV.flat, AV.cl, AV.one, Value.oneCell', thenQ, blockQ, noGotoQ, ↓reduceIte, Nat.reduceEqDiff, reduceCtorEq, getO, aIndexA, es27, Int.natCast_nonneg, Int.ofNat_lt, Int.toNat_natCast, List.length_map, Int.le_refl, Int.toNat_zero, Int.toNat_one, Int.reduceLE, aField, fo38_0, Nat.reduceAdd, tyX, hk, getD_map_cells hp, Int.natCast_add, Int.natCast_one, hw, RNode.cells]
      refine hC7 _ ?_
      try clear hC7 C7
      simp only [bL]
      refine aops_chunk 4 fun C8 hC8 => ?_
      simp only [bL, ↓aops, ↓aop, ↓aWant, ↓aVal, bS, bA, AV.flat, AV.cl, AV.one, Value.oneCell', thenQ, blockQ, noGotoQ, ↓reduceIte, Nat.reduceEqDiff, reduceCtorEq, aField, fo32_0, Nat.reduceAdd, aLoad, ti3, getO, pack, Nat.reduceLeDiff, aBin, tyX, hk, getD_map_cells hp, Int.natCast_add, Int.natCast_one, hw, RNode.cells]
      refine hC8 _ ?_
      try clear hC8 C8
      simp only [bL]
      refine aops_case 19 rfl (fun hc19 => ?_) (fun hc19 => ?_)
      · simp only [List.set_cons_zero, List.set_cons_succ]
        refine aops_chunk 4 fun C9 hC9 => ?_
        simp only [bL, ↓aops, ↓aop, ↓aWant, ↓aVal, bS, bA, AV.flat, AV.cl, AV.one, Value.oneCell', thenQ, blockQ, noGotoQ, ↓reduceIte, Nat.reduceEqDiff, reduceCtorEq, undef, getO, aIndexA, es27, Int.natCast_nonneg, Int.ofNat_lt, Int.toNat_natCast, List.length_map, Int.le_refl, Int.toNat_zero, Int.toNat_one, Int.reduceLE, aField, fo38_0, Nat.reduceAdd, tyX, hk, getD_map_cells hp, Int.natCast_add, Int.natCast_one, hw, RNode.cells]
        refine hC9 _ ?_
        try clear hC9 C9
        simp only [bL]
        refine aops_chunk 4 fun C10 hC10 => ?_
        simp only [bL, ↓aops, ↓aop, ↓aWant, ↓aVal, bS, bA, AV.flat, AV.cl, AV.one, Value.oneCell', thenQ, blockQ, noGotoQ, ↓reduceIte, Nat.reduceEqDiff, reduceCtorEq, undef, aField, fo32_1, Nat.reduceAdd, aLoad, ti3, getO, pack, Nat.reduceLeDiff, aBin, tyX, hk, getD_map_cells hp, Int.natCast_add, Int.natCast_one, hw, RNode.cells]
        refine hC10 _ ?_
        try clear hC10 C10
        simp only [bL]
        simp only [↓aops, ↓aop, ↓aWant, ↓aVal, bS, bA, AV.flat, AV.cl, AV.one, Value.oneCell', thenQ, blockQ, noGotoQ, ↓reduceIte, Nat.reduceEqDiff, reduceCtorEq, aBool, tyX, hk, getD_map_cells hp, Int.natCast_add, Int.natCast_one, hw, RNode.cells, bL]
        try simp only [maskL, setsL, putsO, putO, bA, Nat.reduceEqDiff, ↓reduceIte]
        refine Weak.mk ?_ (fun _ _ h => h) rfl rfl
        simp only [LeL, Le.refl, Le.any, and_self, and_true, true_and]
        all_goals (refine Le.of_eq (congrArg (fun b => AV.v (.bool b)) ?_); simp_all [RNode.isVar])
      · simp only [List.set_cons_zero, List.set_cons_succ]
        refine aops_chunk 4 fun C11 hC11 => ?_
        simp only [bL, ↓aops, ↓aop, ↓aWant, ↓aVal, bS, bA, AV.flat, AV.cl, AV.one, Value.oneCell', thenQ, blockQ, noGotoQ, ↓reduceIte, Nat.reduceEqDiff, reduceCtorEq, undef, getO, aIndexA, es27, Int.natCast_nonneg, Int.ofNat_lt, Int.toNat_natCast, List.length_map, Int.le_refl, Int.toNat_zero, Int.toNat_one, Int.reduceLE, aField, fo38_0, Nat.reduceAdd, tyX, hk, getD_map_cells hp, Int.natCast_add, Int.natCast_one, hw, RNode.cells]
        refine hC11 _ ?_
        try clear hC11 C11
        simp only [bL]
        refine aops_chunk 4 fun C12 hC12 => ?_
        simp only [bL, ↓aops, ↓aop, ↓aWant, ↓aVal, bS, bA, AV.flat, AV.cl, AV.one, Value.oneCell', thenQ, blockQ, noGotoQ, ↓reduceIte, Nat.reduceEqDiff, reduceCtorEq, undef, aField, fo32_1, Nat.reduceAdd, aLoad, ti3, getO, pack, Nat.reduceLeDiff, aBin, tyX, hk, getD_map_cells hp, Int.natCast_add, Int.natCast_one, hw, RNode.cells]
        refine hC12 _ ?_
        try clear hC12 C12
        simp only [bL]
        simp only [↓aops, ↓aop, ↓aWant, ↓aVal, bS, bA, AV.flat, AV.cl, AV.one, Value.oneCell', thenQ, blockQ, noGotoQ, ↓reduceIte, Nat.reduceEqDiff, reduceCtorEq, aBool, tyX, hk, getD_map_cells hp, Int.natCast_add, Int.natCast_one, hw, RNode.cells, bL]
        try simp only [maskL, setsL, putsO, putO, bA, Nat.reduceEqDiff, ↓reduceIte]
        refine Weak.mk ?_ (fun _ _ h => h) rfl rfl
        simp only [LeL, Le.refl, Le.any, and_self, and_true, true_and]
        all_goals (refine Le.of_eq (congrArg (fun b => AV.v (.bool b)) ?_); simp_all [RNode.isVar])
    simp only [maskL, setsL, putsO, putO, bA, Nat.reduceEqDiff, ↓reduceIte]
    refine AWp_cond rfl (fun hb28 => ?_) (fun hb28 => ?_)
    · skip
      refine AWp_seqK fun K13 hK13 => ?_
      refine AWp_region ?_
      simp only [↓aops, ↓aop, ↓aWant, ↓aVal, bS, bA, AV.flat, AV.cl, AV.one, Value.oneCell', thenQ, blockQ, noGotoQ, ↓reduceIte, Nat.reduceEqDiff, reduceCtorEq, tyX, hk, getD_map_cells hp, Int.natCast_add, Int.natCast_one, hw, RNode.cells, bL]
      refine hK13 _ ?_
      try clear hK13 K13
      refine AWp_ret ?_
      try simp only [thenQ, blockQ, noGotoQ, retQ, aRes, tupOf, bS, bA]
      refine Le.of_eq (congrArg (fun n => AV.v (.int .i64 n)) ?_)
      first | (rw [idxI_some hp (by exact hb28) hs.2]; done) | (rw [idxI_none (fun i p hi h1 => hs.2 i p (by omega) h1)]; done)
    · skip
      refine AWp_skip ?_
      try simp only [thenQ, blockQ, noGotoQ]
      refine hK6 _ ?_
      try clear hK6 K6
      refine AWp_region ?_
      simp only [↓aops, ↓aop, ↓aWant, ↓aVal, bS, bA, AV.flat, AV.cl, AV.one, Value.oneCell', thenQ, blockQ, noGotoQ, ↓reduceIte, Nat.reduceEqDiff, reduceCtorEq, aBin, tyX, hk, getD_map_cells hp, Int.natCast_add, Int.natCast_one, hw, RNode.cells, bL]
      refine ⟨(s + 1), ⟨by omega, fun i p' hi h1 => (by rcases Nat.lt_or_ge i s with h3 | h3 <;> first | exact hs.2 i p' h3 h1 | (obtain rfl : i = s := (by omega); rw [hp] at h1; cases h1; exact hb28))⟩, by omega, ?_⟩
      simp only [maskL, setsL, putsO, putO, bA, Nat.reduceEqDiff, ↓reduceIte, hk, getD_map_cells hp, Int.natCast_add, Int.natCast_one, hw, RNode.cells, bL]
      exact Weak.mk (by simp only [LeL, Le.refl, Le.any, Le.slNil, and_self, Int.natCast_add, Int.cast_ofNat_Int, Int.natCast_one]) (fun _ _ h => h) rfl rfl
  · skip
    have hk : s = g.length := by have := hs.1; simp at hb9; omega
    refine AWp_exit ?_
    simp only [thenQ, blockQ, noGotoQ, bA, Nat.reduceEqDiff, ↓reduceIte]
    refine hK2 _ ?_
    try clear hK2 K2
    refine AWp_seqK fun K14 hK14 => ?_
    refine AWp_region ?_
    simp only [↓aops, ↓aop, ↓aWant, ↓aVal, bS, bA, AV.flat, AV.cl, AV.one, Value.oneCell', thenQ, blockQ, noGotoQ, ↓reduceIte, Nat.reduceEqDiff, reduceCtorEq, tyX]
    refine hK14 _ ?_
    try clear hK14 K14
    refine AWp_ret ?_
    try simp only [thenQ, blockQ, noGotoQ, retQ, aRes, tupOf, bS, bA]
    refine Le.of_eq (congrArg (fun n => AV.v (.int .i64 n)) ?_)
    first | (rw [idxI_some hp (by exact hb28) hs.2]; done) | (rw [idxI_none (fun i p hi h1 => hs.2 i p (by omega) h1)]; done)
theorem Ty.radd_eq (t : Ty) (g : List RNode) : t.radd g = if t.k = 1 ∧ 0 ≤ idxI (RNode.isVar t.n) g then (g, idxI (RNode.isVar t.n) g) else ((Ty.raddL t.ps g []).1 ++ [⟨t, (Ty.raddL t.ps g []).2⟩], ((Ty.raddL t.ps g []).1.length : Int)) := by
  cases t; rw [Ty.radd]; rfl
theorem Ty.raddL_append : ∀ (ps qs : List Ty) (g : List RNode) (l : List Int), Ty.raddL (ps ++ qs) g l = Ty.raddL qs (Ty.raddL ps g l).1 (Ty.raddL ps g l).2
  | [], qs, g, l => by simp [Ty.raddL]
  | p :: ps, qs, g, l => by simp [Ty.raddL, Ty.raddL_append ps qs]
theorem Ty.raddL_step {ps : List Ty} {s : Nat} {p : Ty} (hp : ps[s]? = some p) (g : List RNode) (l : List Int) :
    Ty.raddL (ps.take (s + 1)) g l = ((p.radd (Ty.raddL (ps.take s) g l).1).1, (Ty.raddL (ps.take s) g l).2 ++ [(p.radd (Ty.raddL (ps.take s) g l).1).2]) := by
  rw [List.take_add_one, hp, Ty.raddL_append]
  simp [Ty.raddL]
theorem Ty.raddL_len2 : ∀ (ps : List Ty) (g : List RNode) (l : List Int), (Ty.raddL ps g l).2.length = l.length + ps.length
  | [], g, l => by simp [Ty.raddL]
  | p :: ps, g, l => by simp [Ty.raddL, Ty.raddL_len2 ps]; omega
theorem Ty.radd_len : ∀ (t : Ty) (g : List RNode), (t.radd g).1.length ≤ g.length + t.cnt := by
  refine Ty.ind fun t ih => ?_
  have key : ∀ ps : List Ty, (∀ p ∈ ps, ∀ g : List RNode, (p.radd g).1.length ≤ g.length + p.cnt) → ∀ (g : List RNode) (l : List Int), (Ty.raddL ps g l).1.length ≤ g.length + Ty.cntL ps := by
    intro ps
    induction ps with
    | nil => intro _ g l; simp [Ty.raddL, Ty.cntL]
    | cons p ps ihp =>
      intro hp g l
      have h1 := hp p (by simp) g
      have h2 := ihp (fun q hq => hp q (by simp [hq])) (p.radd g).1 (l ++ [(p.radd g).2])
      simp only [Ty.raddL, Ty.cntL]; omega
  intro g
  rw [Ty.radd_eq, Ty.cnt_eq]
  split
  · simp only; omega
  · have := key t.ps ih g []
    simp only [List.length_append, List.length_cons, List.length_nil]; omega
theorem Ty.raddL_len (ps : List Ty) (g : List RNode) (l : List Int) : (Ty.raddL ps g l).1.length ≤ g.length + Ty.cntL ps := by
  induction ps generalizing g l with
  | nil => simp [Ty.raddL, Ty.cntL]
  | cons p ps ihp =>
    have h1 := Ty.radd_len p g
    have h2 := ihp (p.radd g).1 (l ++ [(p.radd g).2])
    simp only [Ty.raddL, Ty.cntL]; omega
theorem RNode.all_one (l : List RNode) : ((l.map RNode.cells).all fun y => y.all AV.one) = true := by
  rw [List.all_eq_true]
  intro y hy
  obtain ⟨r, _, rfl⟩ := List.mem_map.1 hy
  rfl
end Go.Proofs.Ytohdoloalolpfaa
