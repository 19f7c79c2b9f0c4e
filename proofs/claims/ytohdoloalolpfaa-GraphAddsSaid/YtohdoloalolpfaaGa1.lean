import Derived.Test.YtohdoloalolpfaaRef11b
import Derived.Test.YtohdoloalolpfaaAb25
namespace Go.Proofs.Ytohdoloalolpfaa
open Go Go.RowKit
set_option maxRecDepth 100000
set_option maxHeartbeats 1000000
set_option linter.unusedSimpArgs false
set_option linter.unusedVariables false
attribute [local irreducible] aops dRun
/-- a number put into a rising list -/
def insI (n : Int) (l : List Int) : List Int := l.takeWhile (fun x => decide (x < n)) ++ n :: l.dropWhile (fun x => decide (x < n))
theorem insI_len (n : Int) (l : List Int) : (insI n l).length = l.length + 1 := by
  have h := congrArg List.length (List.takeWhile_append_dropWhile (p := fun x => decide (x < n)) (l := l))
  simp only [List.length_append] at h
  simp only [insI, List.length_append, List.length_cons]; omega
theorem while_at {p : Int → Bool} : ∀ {l : List Int} {v : Nat}, v ≤ l.length → (∀ (j : Nat) (x : Int), j < v → l[j]? = some x → p x = true) → (∀ x, l[v]? = some x → p x = false) → l.takeWhile p = l.take v ∧ l.dropWhile p = l.drop v
  | [], v, hv, _, _ => by simp
  | a :: l, 0, _, _, h => by
    have := h a rfl
    simp [List.takeWhile_cons, List.dropWhile_cons, this]
  | a :: l, v + 1, hv, h1, h2 => by
    have ha := h1 0 a (by omega) rfl
    have ih := while_at (l := l) (v := v) (by simpa using hv) (fun j x hj hx => h1 (j + 1) x (by omega) (by simpa using hx)) (fun x hx => h2 x (by simpa using hx))
    simp [List.takeWhile_cons, List.dropWhile_cons, ha, ih.1, ih.2]
theorem intC_all (l : List Int) : ((l.map intC).all fun y => y.all AV.one) = true := by
  induction l with
  | nil => rfl
  | cons x l ih => rw [List.map_cons, List.all_cons, ih]; rfl
def varsS (l : List Int) (r : RNode) : List Int := if r.t.k = 1 then insI r.t.n l else l
def varsI (g : List RNode) : List Int := g.foldl varsS []
theorem varsI_take {g : List RNode} {s : Nat} {r : RNode} (h : g[s]? = some r) : varsI (g.take (s + 1)) = varsS (varsI (g.take s)) r := by
  rw [List.take_add_one, h, varsI, List.foldl_append]; rfl
theorem varsS_len (l : List Int) (r : RNode) : (varsS l r).length ≤ l.length + 1 := by
  unfold varsS; split
  · rw [insI_len]; omega
  · omega
theorem varsI_len : ∀ (g : List RNode) (l : List Int), (g.foldl varsS l).length ≤ l.length + g.length
  | [], l => by simp
  | r :: g, l => by
    have h1 := varsI_len g (varsS l r)
    have h2 := varsS_len l r
    simp only [List.foldl_cons, List.length_cons]; omega
theorem RGVars_pure (g : List RNode) (hg : g.length ≤ 1048576) : APure Try.prog 23 [.sl 4 (g.map RNode.cells)] (.sl 1 ((varsI g).map intC)) := by
  refine APure.mkL (.cons (RNode.dataSl g) .nil) (dataInts _) ?_
  refine ACalls_intro Try.func23 (by kernel_rfl) rfl (by rw [Try.ntmps23]; simp) (fun hm => ?_)
  simp only [Try.ntmps23, Try.results23, List.length_cons, List.length_nil, Nat.reduceAdd, Nat.reduceSub, List.replicate_succ, List.replicate_zero, List.cons_append, List.nil_append]
  refine AWp_seqK fun K1 hK1 => ?_
  refine AWp_region ?_
  simp only [↓aops, ↓aop, ↓aWant, ↓aVal, bS, bA, AV.flat, AV.cl, AV.one, Value.oneCell', thenQ, blockQ, noGotoQ, ↓reduceIte, Nat.reduceEqDiff, reduceCtorEq, tyX, List.length_map]
  refine hK1 _ ?_
  try clear hK1 K1
  refine AWp_seqK fun K2 hK2 => ?_
  refine AWp_region ?_
  simp only [↓aops, ↓aop, ↓aWant, ↓aVal, bS, bA, AV.flat, AV.cl, AV.one, Value.oneCell', thenQ, blockQ, noGotoQ, ↓reduceIte, Nat.reduceEqDiff, reduceCtorEq, tyX, List.length_map]
  refine hK2 _ ?_
  try clear hK2 K2
  refine AWp_seqK fun K3 hK3 => ?_
  refine AWp_seqK fun K4 hK4 => ?_
  refine AWp_region ?_
  simp only [↓aops, ↓aop, ↓aWant, ↓aVal, bS, bA, AV.flat, AV.cl, AV.one, Value.oneCell', thenQ, blockQ, noGotoQ, ↓reduceIte, Nat.reduceEqDiff, reduceCtorEq, tyX, List.length_map]
  refine hK4 _ ?_
  try clear hK4 K4
  refine AWp_block ?_
  refine AWp_loopM (σ := Nat) [true, false, false, true, true, false, false, false, false, false, false, false, false, false, false, false, false, false, false, false, false, false, false, false, false, false, false, false, false, false, false, false, false, false, false, false, false, false, false, false, false, false, false, false, false, false, false, false, false, false, false, false, false, false, false, false] (fun s => s ≤ g.length) (fun s => [(3, .sl 1 ((varsI (g.take s)).map intC)), (4, .v (.int .i64 (s : Int)))]) (fun s => []) (fun s => g.length - s) 0 (by omega) ?_ (fun s hs => ?_)
  · skip
    simp only [maskL, setsL, putsO, putO, bA, Nat.reduceEqDiff, ↓reduceIte, bL, varsI, List.foldl_nil]
    exact Weak.mk (by simp only [LeL, Le.refl, Le.any, Le.slNil, and_self, Int.natCast_add, Int.cast_ofNat_Int, Int.natCast_one]) (fun _ _ h => h) rfl rfl
  simp only [maskL, setsL, putsO, putO, bA, Nat.reduceEqDiff, ↓reduceIte]
  refine AWp_seqK fun K5 hK5 => ?_
  refine AWp_seqK fun K6 hK6 => ?_
  refine AWp_region ?_
  refine aops_chunk 1 fun C7 hC7 => ?_
  simp only [bL, ↓aops, ↓aop, ↓aWant, ↓aVal, bS, bA, AV.flat, AV.cl, AV.one, Value.oneCell', thenQ, blockQ, noGotoQ, ↓reduceIte, Nat.reduceEqDiff, reduceCtorEq, tyX, List.length_map]
  refine hC7 _ ?_
  try clear hC7 C7
  simp only [bL]
  refine aops_chunk 1 fun C8 hC8 => ?_
  simp only [bL, ↓aops, ↓aop, ↓aWant, ↓aVal, bS, bA, AV.flat, AV.cl, AV.one, Value.oneCell', thenQ, blockQ, noGotoQ, ↓reduceIte, Nat.reduceEqDiff, reduceCtorEq, tyX, List.length_map]
  refine hC8 _ ?_
  try clear hC8 C8
  simp only [bL]
  refine aops_chunk 1 fun C9 hC9 => ?_
  simp only [bL, ↓aops, ↓aop, ↓aWant, ↓aVal, bS, bA, AV.flat, AV.cl, AV.one, Value.oneCell', thenQ, blockQ, noGotoQ, ↓reduceIte, Nat.reduceEqDiff, reduceCtorEq, getO, aLenX, aLen, ln27, List.length_map, tyX]
  refine hC9 _ ?_
  try clear hC9 C9
  simp only [bL]
  simp only [↓aops, ↓aop, ↓aWant, ↓aVal, bS, bA, AV.flat, AV.cl, AV.one, Value.oneCell', thenQ, blockQ, noGotoQ, ↓reduceIte, Nat.reduceEqDiff, reduceCtorEq, aBin, tyX, List.length_map]
  refine hK6 _ ?_
  try clear hK6 K6
  refine AWp_cond rfl (fun hb9 => ?_) (fun hb9 => ?_)
  · skip
    have hk : s < g.length := by simpa using hb9
    obtain ⟨r, hr⟩ : ∃ r, g[s]? = some r := ⟨_, List.getElem?_eq_getElem hk⟩
    have hw : IntKind.i64.wrap ((s : Int) + 1) = (s : Int) + 1 := wrap_in (by omega) (by omega)
    have hvt := varsI_take hr
    have hvl := varsI_len (g.take s) []
    have hvl2 : (varsI (g.take s)).length ≤ 1048576 := by (unfold varsI; simp at hvl ⊢; omega)
    refine AWp_skip ?_
    try simp only [thenQ, blockQ, noGotoQ]
    refine hK5 _ ?_
    try clear hK5 K5
    refine AWp_seqK fun K10 hK10 => ?_
    refine AWp_block ?_
    refine AWp_seqK fun K11 hK11 => ?_
    refine AWp_seqK fun K12 hK12 => ?_
    refine AWp_region ?_
    refine aops_chunk 1 fun C13 hC13 => ?_
    simp only [bL, ↓aops, ↓aop, ↓aWant, ↓aVal, bS, bA, AV.flat, AV.cl, AV.one, Value.oneCell', thenQ, blockQ, noGotoQ, ↓reduceIte, Nat.reduceEqDiff, reduceCtorEq, tyX, List.length_map, hk, getD_map_cells hr, RNode.cells, Int.natCast_add, Int.natCast_one, Int.cast_ofNat_Int, hw]
    refine hC13 _ ?_
    try clear hC13 C13
    simp only [bL]
    refine aops_chunk 1 fun C14 hC14 => ?_
    simp only [bL, ↓aops, ↓aop, ↓aWant, ↓aVal, bS, bA, AV.flat, AV.cl, AV.one, Value.oneCell', thenQ, blockQ, noGotoQ, ↓reduceIte, Nat.reduceEqDiff, reduceCtorEq, tyX, List.length_map, hk, getD_map_cells hr, RNode.cells, Int.natCast_add, Int.natCast_one, Int.cast_ofNat_Int, hw]
    refine hC14 _ ?_
    try clear hC14 C14
    simp only [bL]
    refine aops_chunk 1 fun C15 hC15 => ?_
    simp only [bL, ↓aops, ↓aop, ↓aWant, ↓aVal, bS, bA, AV.flat, AV.cl, AV.one, Value.oneCell', thenQ, blockQ, noGotoQ, ↓reduceIte, Nat.reduceEqDiff, reduceCtorEq, getO, aIndexA, es27, Int.natCast_nonneg, Int.ofNat_lt, Int.toNat_natCast, List.length_map, Int.le_refl, Int.toNat_zero, Int.toNat_one, Int.reduceLE, tyX, hk, getD_map_cells hr, RNode.cells, Int.natCast_add, Int.natCast_one, Int.cast_ofNat_Int, hw]
    refine hC15 _ ?_
    try clear hC15 C15
    simp only [bL]
    refine aops_chunk 1 fun C16 hC16 => ?_
    simp only [bL, ↓aops, ↓aop, ↓aWant, ↓aVal, bS, bA, AV.flat, AV.cl, AV.one, Value.oneCell', thenQ, blockQ, noGotoQ, ↓reduceIte, Nat.reduceEqDiff, reduceCtorEq, aField, fo38_0, Nat.reduceAdd, tyX, List.length_map, hk, getD_map_cells hr, RNode.cells, Int.natCast_add, Int.natCast_one, Int.cast_ofNat_Int, hw]
    refine hC16 _ ?_
    try clear hC16 C16
    simp only [bL]
    refine aops_chunk 1 fun C17 hC17 => ?_
    simp only [bL, ↓aops, ↓aop, ↓aWant, ↓aVal, bS, bA, AV.flat, AV.cl, AV.one, Value.oneCell', thenQ, blockQ, noGotoQ, ↓reduceIte, Nat.reduceEqDiff, reduceCtorEq, aField, fo32_0, Nat.reduceAdd, tyX, List.length_map, hk, getD_map_cells hr, RNode.cells, Int.natCast_add, Int.natCast_one, Int.cast_ofNat_Int, hw]
    refine hC17 _ ?_
    try clear hC17 C17
    simp only [bL]
    refine aops_chunk 1 fun C18 hC18 => ?_
    simp only [bL, ↓aops, ↓aop, ↓aWant, ↓aVal, bS, bA, AV.flat, AV.cl, AV.one, Value.oneCell', thenQ, blockQ, noGotoQ, ↓reduceIte, Nat.reduceEqDiff, reduceCtorEq, aLoad, ti3, getO, pack, Nat.reduceAdd, Nat.reduceLeDiff, tyX, List.length_map, hk, getD_map_cells hr, RNode.cells, Int.natCast_add, Int.natCast_one, Int.cast_ofNat_Int, hw]
    refine hC18 _ ?_
    try clear hC18 C18
    simp only [bL]
    simp only [↓aops, ↓aop, ↓aWant, ↓aVal, bS, bA, AV.flat, AV.cl, AV.one, Value.oneCell', thenQ, blockQ, noGotoQ, ↓reduceIte, Nat.reduceEqDiff, reduceCtorEq, aBin, tyX, List.length_map, hk, getD_map_cells hr, RNode.cells, Int.natCast_add, Int.natCast_one, Int.cast_ofNat_Int, hw]
    refine hK12 _ ?_
    try clear hK12 K12
    refine AWp_cond rfl (fun hb18 => ?_) (fun hb18 => ?_)
    · skip
      have hk1 : r.t.k ≠ 1 := by simpa using hb18
      have hst : varsI (g.take (s + 1)) = (varsI (g.take s)) := by rw [hvt, varsS, if_neg hk1]
      refine AWp_exit ?_
      simp only [thenQ, blockQ, noGotoQ, bA, Nat.reduceEqDiff, ↓reduceIte]
      refine hK10 _ ?_
      try clear hK10 K10
      refine AWp_region ?_
      refine aops_chunk 1 fun C19 hC19 => ?_
      simp only [bL, ↓aops, ↓aop, ↓aWant, ↓aVal, bS, bA, AV.flat, AV.cl, AV.one, Value.oneCell', thenQ, blockQ, noGotoQ, ↓reduceIte, Nat.reduceEqDiff, reduceCtorEq, tyX, List.length_map, hk, getD_map_cells hr, RNode.cells, Int.natCast_add, Int.natCast_one, Int.cast_ofNat_Int, hw]
      refine hC19 _ ?_
      try clear hC19 C19
      simp only [bL]
      refine aops_chunk 1 fun C20 hC20 => ?_
      simp only [bL, ↓aops, ↓aop, ↓aWant, ↓aVal, bS, bA, AV.flat, AV.cl, AV.one, Value.oneCell', thenQ, blockQ, noGotoQ, ↓reduceIte, Nat.reduceEqDiff, reduceCtorEq, aBin, tyX, List.length_map, hk, getD_map_cells hr, RNode.cells, Int.natCast_add, Int.natCast_one, Int.cast_ofNat_Int, hw]
      refine hC20 _ ?_
      try clear hC20 C20
      simp only [bL]
      simp only [↓aops, ↓aop, ↓aWant, ↓aVal, bS, bA, AV.flat, AV.cl, AV.one, Value.oneCell', thenQ, blockQ, noGotoQ, ↓reduceIte, Nat.reduceEqDiff, reduceCtorEq, tyX, List.length_map, hk, getD_map_cells hr, RNode.cells, Int.natCast_add, Int.natCast_one, Int.cast_ofNat_Int, hw]
      refine ⟨(s + 1), (by omega), by omega, ?_⟩
      simp only [maskL, setsL, putsO, putO, bA, Nat.reduceEqDiff, ↓reduceIte, Int.natCast_add, Int.natCast_one]
      refine Weak.bare ?_ rfl ?_
      · simp only [LeL, Le.refl, Le.any, and_self, and_true, true_and]
        first | (rw [hst2]; exact Le.oslL) | (rw [hst]; exact Le.refl _)
      · repeat' first | exact trivial | exact .any _ | exact .v _ _ | exact Und.data (RNode.dataSl _) | exact Und.data (dataInts _) | (refine ⟨?_, ?_⟩)
    · skip
      have hk1 : r.t.k = 1 := by simpa using hb18
      refine AWp_skip ?_
      try simp only [thenQ, blockQ, noGotoQ]
      refine hK11 _ ?_
      try clear hK11 K11
      refine AWp_seqK fun K21 hK21 => ?_
      refine AWp_region ?_
      simp only [↓aops, ↓aop, ↓aWant, ↓aVal, bS, bA, AV.flat, AV.cl, AV.one, Value.oneCell', thenQ, blockQ, noGotoQ, ↓reduceIte, Nat.reduceEqDiff, reduceCtorEq, tyX, List.length_map, hk, getD_map_cells hr, RNode.cells, Int.natCast_add, Int.natCast_one, Int.cast_ofNat_Int, hw]
      refine hK21 _ ?_
      try clear hK21 K21
      refine AWp_seqK fun K22 hK22 => ?_
      refine AWp_block ?_
      refine AWp_loopM (σ := Nat) [true, false, false, true, true, true, false, false, false, false, false, false, false, false, false, false, false, false, false, false, false, false, false, false, false, false, false, false, false, false, false, false, false, false, false, false, false, false, false, false, false, false, false, false, false, false, false, false, false, false, false, false, false, false, false, false] (fun v => v ≤ (varsI (g.take s)).length ∧ ∀ (j : Nat) (x : Int), j < v → (varsI (g.take s))[j]? = some x → x < r.t.n) (fun v => [(5, .v (.int .i64 (v : Int)))]) (fun v => []) (fun v => (varsI (g.take s)).length - v) 0 (⟨Nat.zero_le _, fun j x hj => by omega⟩) ?_ (fun v hv => ?_)
      · skip
        simp only [maskL, setsL, putsO, putO, bA, Nat.reduceEqDiff, ↓reduceIte]
        exact Weak.mk (by simp only [LeL, Le.refl, Le.any, Le.slNil, and_self, Int.natCast_add, Int.cast_ofNat_Int, Int.natCast_one]) (fun _ _ h => h) rfl rfl
      simp only [maskL, setsL, putsO, putO, bA, Nat.reduceEqDiff, ↓reduceIte]
      refine AWp_seqK fun K23 hK23 => ?_
      refine AWp_joinM [true, false, false, true, true, true, false, false, false, false, false, false, false, false, false, false, false, false, false, false, false, false, false, false, false, false, false, false, false, false, false, false, false, false, false, true, false, false, false, false, false, false, false, false, false, false, false, false, false, false, false, false, false, false, false, false] ([(35, .v (.bool (decide (v < (varsI (g.take s)).length ∧ (varsI (g.take s)).getD v 0 < r.t.n))))]) ([]) ?_ ?_
      · skip
        refine AWp_drawK 17 mixed (by kernel_rfl) fun K24 hK24 => ?_
        simp only [bL]
        refine dRun_chunk 1 fun C25 hC25 => ?_
        simp only [bL, ↓dRun, ↓dOp, ↓aops, ↓aop, ↓aWant, ↓aVal, bS, bA, AV.flat, AV.cl, AV.one, Value.oneCell', thenQ, blockQ, noGotoQ, ↓reduceIte, Nat.reduceEqDiff, reduceCtorEq, tyX, List.length_map, hk, getD_map_cells hr, RNode.cells, Int.natCast_add, Int.natCast_one, Int.cast_ofNat_Int, hw]
        refine hC25 _ ?_
        try clear hC25 C25
        simp only [bL]
        refine dRun_chunk 1 fun C26 hC26 => ?_
        simp only [bL, ↓dRun, ↓dOp, ↓aops, ↓aop, ↓aWant, ↓aVal, bS, bA, AV.flat, AV.cl, AV.one, Value.oneCell', thenQ, blockQ, noGotoQ, ↓reduceIte, Nat.reduceEqDiff, reduceCtorEq, tyX, List.length_map, hk, getD_map_cells hr, RNode.cells, Int.natCast_add, Int.natCast_one, Int.cast_ofNat_Int, hw]
        refine hC26 _ ?_
        try clear hC26 C26
        simp only [bL]
        refine dRun_chunk 1 fun C27 hC27 => ?_
        simp only [bL, ↓dRun, ↓dOp, ↓aops, ↓aop, ↓aWant, ↓aVal, bS, bA, AV.flat, AV.cl, AV.one, Value.oneCell', thenQ, blockQ, noGotoQ, ↓reduceIte, Nat.reduceEqDiff, reduceCtorEq, getO, aLenX, aLen, ln28, List.length_map, tyX, hk, getD_map_cells hr, RNode.cells, Int.natCast_add, Int.natCast_one, Int.cast_ofNat_Int, hw]
        refine hC27 _ ?_
        try clear hC27 C27
        simp only [bL]
        refine dRun_chunk 1 fun C28 hC28 => ?_
        simp only [bL, ↓dRun, ↓dOp, ↓aops, ↓aop, ↓aWant, ↓aVal, bS, bA, AV.flat, AV.cl, AV.one, Value.oneCell', thenQ, blockQ, noGotoQ, ↓reduceIte, Nat.reduceEqDiff, reduceCtorEq, aBin, tyX, List.length_map, hk, getD_map_cells hr, RNode.cells, Int.natCast_add, Int.natCast_one, Int.cast_ofNat_Int, hw]
        refine hC28 _ ?_
        try clear hC28 C28
        simp only [bL]
        refine dRun_chunk 1 fun C29 hC29 => ?_
        simp only [bL, ↓dRun, ↓dOp, ↓aops, ↓aop, ↓aWant, ↓aVal, bS, bA, AV.flat, AV.cl, AV.one, Value.oneCell', thenQ, blockQ, noGotoQ, ↓reduceIte, Nat.reduceEqDiff, reduceCtorEq, tyX, List.length_map, hk, getD_map_cells hr, RNode.cells, Int.natCast_add, Int.natCast_one, Int.cast_ofNat_Int, hw]
        refine hC29 _ ?_
        try clear hC29 C29
        simp only [bL]
        refine dRun_case 23 rfl (fun hc23 => ?_) (fun hc23 => ?_)
        · simp only [List.set_cons_zero, List.set_cons_succ]
          have hlv : v < (varsI (g.take s)).length := by simpa using hc23
          obtain ⟨x1, hx1⟩ : ∃ x, (varsI (g.take s))[v]? = some x := ⟨_, List.getElem?_eq_getElem hlv⟩
          refine dRun_chunk 1 fun C30 hC30 => ?_
          simp only [bL, ↓dRun, ↓dOp, ↓aops, ↓aop, ↓aWant, ↓aVal, bS, bA, AV.flat, AV.cl, AV.one, Value.oneCell', thenQ, blockQ, noGotoQ, ↓reduceIte, Nat.reduceEqDiff, reduceCtorEq, undef, tyX, List.length_map, hk, getD_map_cells hr, RNode.cells, Int.natCast_add, Int.natCast_one, Int.cast_ofNat_Int, hw, getD_map_cells hx1, hlv, intC]
          refine hC30 _ ?_
          try clear hC30 C30
          simp only [bL]
          refine dRun_chunk 1 fun C31 hC31 => ?_
          simp only [bL, ↓dRun, ↓dOp, ↓aops, ↓aop, ↓aWant, ↓aVal, bS, bA, AV.flat, AV.cl, AV.one, Value.oneCell', thenQ, blockQ, noGotoQ, ↓reduceIte, Nat.reduceEqDiff, reduceCtorEq, undef, tyX, List.length_map, hk, getD_map_cells hr, RNode.cells, Int.natCast_add, Int.natCast_one, Int.cast_ofNat_Int, hw, getD_map_cells hx1, hlv, intC]
          refine hC31 _ ?_
          try clear hC31 C31
          simp only [bL]
          refine dRun_chunk 1 fun C32 hC32 => ?_
          simp only [bL, ↓dRun, ↓dOp, ↓aops, ↓aop, ↓aWant, ↓aVal, bS, bA, AV.flat, AV.cl, AV.one, Value.oneCell', thenQ, blockQ, noGotoQ, ↓reduceIte, Nat.reduceEqDiff, reduceCtorEq, undef, getO, aIndexA, es28, Int.natCast_nonneg, Int.ofNat_lt, Int.toNat_natCast, List.length_map, Int.le_refl, Int.toNat_zero, Int.toNat_one, Int.reduceLE, tyX, hk, getD_map_cells hr, RNode.cells, Int.natCast_add, Int.natCast_one, Int.cast_ofNat_Int, hw, getD_map_cells hx1, hlv, intC]
          refine hC32 _ ?_
          try clear hC32 C32
          simp only [bL]
          refine dRun_chunk 1 fun C33 hC33 => ?_
          simp only [bL, ↓dRun, ↓dOp, ↓aops, ↓aop, ↓aWant, ↓aVal, bS, bA, AV.flat, AV.cl, AV.one, Value.oneCell', thenQ, blockQ, noGotoQ, ↓reduceIte, Nat.reduceEqDiff, reduceCtorEq, undef, aLoad, ti3, getO, pack, Nat.reduceAdd, Nat.reduceLeDiff, tyX, List.length_map, hk, getD_map_cells hr, RNode.cells, Int.natCast_add, Int.natCast_one, Int.cast_ofNat_Int, hw, getD_map_cells hx1, hlv, intC]
          refine hC33 _ ?_
          try clear hC33 C33
          simp only [bL]
          refine dRun_chunk 1 fun C34 hC34 => ?_
          simp only [bL, ↓dRun, ↓dOp, ↓aops, ↓aop, ↓aWant, ↓aVal, bS, bA, AV.flat, AV.cl, AV.one, Value.oneCell', thenQ, blockQ, noGotoQ, ↓reduceIte, Nat.reduceEqDiff, reduceCtorEq, undef, tyX, List.length_map, hk, getD_map_cells hr, RNode.cells, Int.natCast_add, Int.natCast_one, Int.cast_ofNat_Int, hw, getD_map_cells hx1, hlv, intC]
          refine hC34 _ ?_
          try clear hC34 C34
          simp only [bL]
          refine dRun_chunk 1 fun C35 hC35 => ?_
          simp only [bL, ↓dRun, ↓dOp, ↓aops, ↓aop, ↓aWant, ↓aVal, bS, bA, AV.flat, AV.cl, AV.one, Value.oneCell', thenQ, blockQ, noGotoQ, ↓reduceIte, Nat.reduceEqDiff, reduceCtorEq, undef, tyX, List.length_map, hk, getD_map_cells hr, RNode.cells, Int.natCast_add, Int.natCast_one, Int.cast_ofNat_Int, hw, getD_map_cells hx1, hlv, intC]
          refine hC35 _ ?_
          try clear hC35 C35
          simp only [bL]
          refine dRun_chunk 1 fun C36 hC36 => ?_
          simp only [bL, ↓dRun, ↓dOp, ↓aops, ↓aop, ↓aWant, ↓aVal, bS, bA, AV.flat, AV.cl, AV.one, Value.oneCell', thenQ, blockQ, noGotoQ, ↓reduceIte, Nat.reduceEqDiff, reduceCtorEq, undef, getO, aIndexA, es27, Int.natCast_nonneg, Int.ofNat_lt, Int.toNat_natCast, List.length_map, Int.le_refl, Int.toNat_zero, Int.toNat_one, Int.reduceLE, tyX, hk, getD_map_cells hr, RNode.cells, Int.natCast_add, Int.natCast_one, Int.cast_ofNat_Int, hw, getD_map_cells hx1, hlv, intC]
          refine hC36 _ ?_
          try clear hC36 C36
          simp only [bL]
          refine dRun_chunk 1 fun C37 hC37 => ?_
          simp only [bL, ↓dRun, ↓dOp, ↓aops, ↓aop, ↓aWant, ↓aVal, bS, bA, AV.flat, AV.cl, AV.one, Value.oneCell', thenQ, blockQ, noGotoQ, ↓reduceIte, Nat.reduceEqDiff, reduceCtorEq, undef, aField, fo38_0, Nat.reduceAdd, tyX, List.length_map, hk, getD_map_cells hr, RNode.cells, Int.natCast_add, Int.natCast_one, Int.cast_ofNat_Int, hw, getD_map_cells hx1, hlv, intC]
          refine hC37 _ ?_
          try clear hC37 C37
          simp only [bL]
          refine dRun_chunk 1 fun C38 hC38 => ?_
          simp only [bL, ↓dRun, ↓dOp, ↓aops, ↓aop, ↓aWant, ↓aVal, bS, bA, AV.flat, AV.cl, AV.one, Value.oneCell', thenQ, blockQ, noGotoQ, ↓reduceIte, Nat.reduceEqDiff, reduceCtorEq, undef, aField, fo32_1, Nat.reduceAdd, tyX, List.length_map, hk, getD_map_cells hr, RNode.cells, Int.natCast_add, Int.natCast_one, Int.cast_ofNat_Int, hw, getD_map_cells hx1, hlv, intC]
          refine hC38 _ ?_
          try clear hC38 C38
          simp only [bL]
          refine dRun_chunk 1 fun C39 hC39 => ?_
          simp only [bL, ↓dRun, ↓dOp, ↓aops, ↓aop, ↓aWant, ↓aVal, bS, bA, AV.flat, AV.cl, AV.one, Value.oneCell', thenQ, blockQ, noGotoQ, ↓reduceIte, Nat.reduceEqDiff, reduceCtorEq, undef, aLoad, ti3, getO, pack, Nat.reduceAdd, Nat.reduceLeDiff, tyX, List.length_map, hk, getD_map_cells hr, RNode.cells, Int.natCast_add, Int.natCast_one, Int.cast_ofNat_Int, hw, getD_map_cells hx1, hlv, intC]
          refine hC39 _ ?_
          try clear hC39 C39
          simp only [bL]
          refine dRun_chunk 1 fun C40 hC40 => ?_
          simp only [bL, ↓dRun, ↓dOp, ↓aops, ↓aop, ↓aWant, ↓aVal, bS, bA, AV.flat, AV.cl, AV.one, Value.oneCell', thenQ, blockQ, noGotoQ, ↓reduceIte, Nat.reduceEqDiff, reduceCtorEq, undef, aBin, tyX, List.length_map, hk, getD_map_cells hr, RNode.cells, Int.natCast_add, Int.natCast_one, Int.cast_ofNat_Int, hw, getD_map_cells hx1, hlv, intC]
          refine hC40 _ ?_
          try clear hC40 C40
          simp only [bL]
          simp only [↓dRun, ↓dOp, bL, ↓aops, ↓aop, ↓aWant, ↓aVal, bS, bA, AV.flat, AV.cl, AV.one, Value.oneCell', thenQ, blockQ, noGotoQ, ↓reduceIte, Nat.reduceEqDiff, reduceCtorEq, aBool, tyX, List.length_map, hk, getD_map_cells hr, RNode.cells, Int.natCast_add, Int.natCast_one, Int.cast_ofNat_Int, hw, getD_map_cells hx1, hlv, intC]
          refine hK24 _ ?_
          try clear hK24 K24
          simp only [bL, aops, thenQ, blockQ, noGotoQ]
          try simp only [maskL, setsL, putsO, putO, bA, Nat.reduceEqDiff, ↓reduceIte]
          refine Weak.mk ?_ (fun _ _ h => h) rfl rfl
          simp only [LeL, Le.refl, Le.any, and_self, and_true, true_and]
          all_goals (refine Le.of_eq (congrArg (fun b => AV.v (.bool b)) ?_); rw [Bool.eq_iff_iff]; simp only [decide_eq_true_eq, Bool.false_eq_true, false_iff, List.getD_eq_getElem?_getD]; first | (rw [hx1]; simp [hlv]; done) | (simp [hlv]; done))
        · simp only [List.set_cons_zero, List.set_cons_succ]
          have hlv : ¬ v < (varsI (g.take s)).length := by simpa using hc23
          refine dRun_chunk 1 fun C41 hC41 => ?_
          simp only [bL, ↓dRun, ↓dOp, ↓aops, ↓aop, ↓aWant, ↓aVal, bS, bA, AV.flat, AV.cl, AV.one, Value.oneCell', thenQ, blockQ, noGotoQ, ↓reduceIte, Nat.reduceEqDiff, reduceCtorEq, undef, tyX, List.length_map, hk, getD_map_cells hr, RNode.cells, Int.natCast_add, Int.natCast_one, Int.cast_ofNat_Int, hw]
          refine hC41 _ ?_
          try clear hC41 C41
          simp only [bL]
          refine dRun_chunk 1 fun C42 hC42 => ?_
          simp only [bL, ↓dRun, ↓dOp, ↓aops, ↓aop, ↓aWant, ↓aVal, bS, bA, AV.flat, AV.cl, AV.one, Value.oneCell', thenQ, blockQ, noGotoQ, ↓reduceIte, Nat.reduceEqDiff, reduceCtorEq, undef, tyX, List.length_map, hk, getD_map_cells hr, RNode.cells, Int.natCast_add, Int.natCast_one, Int.cast_ofNat_Int, hw]
          refine hC42 _ ?_
          try clear hC42 C42
          simp only [bL]
          refine dRun_chunk 1 fun C43 hC43 => ?_
          simp only [bL, ↓dRun, ↓dOp, ↓aops, ↓aop, ↓aWant, ↓aVal, bS, bA, AV.flat, AV.cl, AV.one, Value.oneCell', thenQ, blockQ, noGotoQ, ↓reduceIte, Nat.reduceEqDiff, reduceCtorEq, undef, getO, aIndexA, es28, Int.natCast_nonneg, Int.ofNat_lt, Int.toNat_natCast, List.length_map, Int.le_refl, Int.toNat_zero, Int.toNat_one, Int.reduceLE, tyX, hk, getD_map_cells hr, RNode.cells, Int.natCast_add, Int.natCast_one, Int.cast_ofNat_Int, hw]
          refine hC43 _ ?_
          try clear hC43 C43
          simp only [bL]
          refine dRun_chunk 1 fun C44 hC44 => ?_
          simp only [bL, ↓dRun, ↓dOp, ↓aops, ↓aop, ↓aWant, ↓aVal, bS, bA, AV.flat, AV.cl, AV.one, Value.oneCell', thenQ, blockQ, noGotoQ, ↓reduceIte, Nat.reduceEqDiff, reduceCtorEq, undef, aLoad, ti3, getO, pack, Nat.reduceAdd, Nat.reduceLeDiff, tyX, List.length_map, hk, getD_map_cells hr, RNode.cells, Int.natCast_add, Int.natCast_one, Int.cast_ofNat_Int, hw]
          refine hC44 _ ?_
          try clear hC44 C44
          simp only [bL]
          refine dRun_chunk 1 fun C45 hC45 => ?_
          simp only [bL, ↓dRun, ↓dOp, ↓aops, ↓aop, ↓aWant, ↓aVal, bS, bA, AV.flat, AV.cl, AV.one, Value.oneCell', thenQ, blockQ, noGotoQ, ↓reduceIte, Nat.reduceEqDiff, reduceCtorEq, undef, tyX, List.length_map, hk, getD_map_cells hr, RNode.cells, Int.natCast_add, Int.natCast_one, Int.cast_ofNat_Int, hw]
          refine hC45 _ ?_
          try clear hC45 C45
          simp only [bL]
          refine dRun_chunk 1 fun C46 hC46 => ?_
          simp only [bL, ↓dRun, ↓dOp, ↓aops, ↓aop, ↓aWant, ↓aVal, bS, bA, AV.flat, AV.cl, AV.one, Value.oneCell', thenQ, blockQ, noGotoQ, ↓reduceIte, Nat.reduceEqDiff, reduceCtorEq, undef, tyX, List.length_map, hk, getD_map_cells hr, RNode.cells, Int.natCast_add, Int.natCast_one, Int.cast_ofNat_Int, hw]
          refine hC46 _ ?_
          try clear hC46 C46
          simp only [bL]
          refine dRun_chunk 1 fun C47 hC47 => ?_
          simp only [bL, ↓dRun, ↓dOp, ↓aops, ↓aop, ↓aWant, ↓aVal, bS, bA, AV.flat, AV.cl, AV.one, Value.oneCell', thenQ, blockQ, noGotoQ, ↓reduceIte, Nat.reduceEqDiff, reduceCtorEq, undef, getO, aIndexA, es27, Int.natCast_nonneg, Int.ofNat_lt, Int.toNat_natCast, List.length_map, Int.le_refl, Int.toNat_zero, Int.toNat_one, Int.reduceLE, tyX, hk, getD_map_cells hr, RNode.cells, Int.natCast_add, Int.natCast_one, Int.cast_ofNat_Int, hw]
          refine hC47 _ ?_
          try clear hC47 C47
          simp only [bL]
          refine dRun_chunk 1 fun C48 hC48 => ?_
          simp only [bL, ↓dRun, ↓dOp, ↓aops, ↓aop, ↓aWant, ↓aVal, bS, bA, AV.flat, AV.cl, AV.one, Value.oneCell', thenQ, blockQ, noGotoQ, ↓reduceIte, Nat.reduceEqDiff, reduceCtorEq, undef, aField, fo38_0, Nat.reduceAdd, tyX, List.length_map, hk, getD_map_cells hr, RNode.cells, Int.natCast_add, Int.natCast_one, Int.cast_ofNat_Int, hw]
          refine hC48 _ ?_
          try clear hC48 C48
          simp only [bL]
          refine dRun_chunk 1 fun C49 hC49 => ?_
          simp only [bL, ↓dRun, ↓dOp, ↓aops, ↓aop, ↓aWant, ↓aVal, bS, bA, AV.flat, AV.cl, AV.one, Value.oneCell', thenQ, blockQ, noGotoQ, ↓reduceIte, Nat.reduceEqDiff, reduceCtorEq, undef, aField, fo32_1, Nat.reduceAdd, tyX, List.length_map, hk, getD_map_cells hr, RNode.cells, Int.natCast_add, Int.natCast_one, Int.cast_ofNat_Int, hw]
          refine hC49 _ ?_
          try clear hC49 C49
          simp only [bL]
          refine dRun_chunk 1 fun C50 hC50 => ?_
          simp only [bL, ↓dRun, ↓dOp, ↓aops, ↓aop, ↓aWant, ↓aVal, bS, bA, AV.flat, AV.cl, AV.one, Value.oneCell', thenQ, blockQ, noGotoQ, ↓reduceIte, Nat.reduceEqDiff, reduceCtorEq, undef, aLoad, ti3, getO, pack, Nat.reduceAdd, Nat.reduceLeDiff, tyX, List.length_map, hk, getD_map_cells hr, RNode.cells, Int.natCast_add, Int.natCast_one, Int.cast_ofNat_Int, hw]
          refine hC50 _ ?_
          try clear hC50 C50
          simp only [bL]
          refine dRun_chunk 1 fun C51 hC51 => ?_
          simp only [bL, ↓dRun, ↓dOp, ↓aops, ↓aop, ↓aWant, ↓aVal, bS, bA, AV.flat, AV.cl, AV.one, Value.oneCell', thenQ, blockQ, noGotoQ, ↓reduceIte, Nat.reduceEqDiff, reduceCtorEq, undef, aBin, tyX, List.length_map, hk, getD_map_cells hr, RNode.cells, Int.natCast_add, Int.natCast_one, Int.cast_ofNat_Int, hw]
          refine hC51 _ ?_
          try clear hC51 C51
          simp only [bL]
          simp only [↓dRun, ↓dOp, bL, ↓aops, ↓aop, ↓aWant, ↓aVal, bS, bA, AV.flat, AV.cl, AV.one, Value.oneCell', thenQ, blockQ, noGotoQ, ↓reduceIte, Nat.reduceEqDiff, reduceCtorEq, aBool, tyX, List.length_map, hk, getD_map_cells hr, RNode.cells, Int.natCast_add, Int.natCast_one, Int.cast_ofNat_Int, hw]
          refine hK24 _ ?_
          try clear hK24 K24
          simp only [bL, aops, thenQ, blockQ, noGotoQ]
          try simp only [maskL, setsL, putsO, putO, bA, Nat.reduceEqDiff, ↓reduceIte]
          refine Weak.mk ?_ (fun _ _ h => h) rfl rfl
          simp only [LeL, Le.refl, Le.any, and_self, and_true, true_and]
          all_goals (refine Le.of_eq (congrArg (fun b => AV.v (.bool b)) ?_); rw [Bool.eq_iff_iff]; simp only [decide_eq_true_eq, Bool.false_eq_true, false_iff, List.getD_eq_getElem?_getD]; first | (rw [hx1]; simp [hlv]; done) | (simp [hlv]; done))
      simp only [maskL, setsL, putsO, putO, bA, Nat.reduceEqDiff, ↓reduceIte]
      refine AWp_cond rfl (fun hb35 => ?_) (fun hb35 => ?_)
      · skip
        have hk0 : v < (varsI (g.take s)).length ∧ (varsI (g.take s)).getD v 0 < r.t.n := by simpa using hb35
        obtain ⟨x0, hxv⟩ : ∃ x, (varsI (g.take s))[v]? = some x := ⟨_, List.getElem?_eq_getElem hk0.1⟩
        have hlt : x0 < r.t.n := by (have h9 := hk0.2; rw [List.getD_eq_getElem?_getD, hxv] at h9; exact h9)
        have hk1 := hk0.1
        have hw2 : IntKind.i64.wrap ((v : Int) + 1) = (v : Int) + 1 := wrap_in (by omega) (by omega)
        refine AWp_skip ?_
        try simp only [thenQ, blockQ, noGotoQ]
        refine hK23 _ ?_
        try clear hK23 K23
        refine AWp_block ?_
        refine AWp_region ?_
        refine aops_chunk 1 fun C52 hC52 => ?_
        simp only [bL, ↓aops, ↓aop, ↓aWant, ↓aVal, bS, bA, AV.flat, AV.cl, AV.one, Value.oneCell', thenQ, blockQ, noGotoQ, ↓reduceIte, Nat.reduceEqDiff, reduceCtorEq, tyX, List.length_map, hk, getD_map_cells hr, RNode.cells, Int.natCast_add, Int.natCast_one, Int.cast_ofNat_Int, hw, hw2]
        refine hC52 _ ?_
        try clear hC52 C52
        simp only [bL]
        refine aops_chunk 1 fun C53 hC53 => ?_
        simp only [bL, ↓aops, ↓aop, ↓aWant, ↓aVal, bS, bA, AV.flat, AV.cl, AV.one, Value.oneCell', thenQ, blockQ, noGotoQ, ↓reduceIte, Nat.reduceEqDiff, reduceCtorEq, aBin, tyX, List.length_map, hk, getD_map_cells hr, RNode.cells, Int.natCast_add, Int.natCast_one, Int.cast_ofNat_Int, hw, hw2]
        refine hC53 _ ?_
        try clear hC53 C53
        simp only [bL]
        simp only [↓aops, ↓aop, ↓aWant, ↓aVal, bS, bA, AV.flat, AV.cl, AV.one, Value.oneCell', thenQ, blockQ, noGotoQ, ↓reduceIte, Nat.reduceEqDiff, reduceCtorEq, tyX, List.length_map, hk, getD_map_cells hr, RNode.cells, Int.natCast_add, Int.natCast_one, Int.cast_ofNat_Int, hw, hw2]
        refine ⟨(v + 1), ⟨by omega, fun j x hj hx => by (rcases Nat.lt_or_ge j v with h9 | h9 <;> first | exact hv.2 j x h9 hx | (obtain rfl : j = v := (by omega); rw [hxv] at hx; cases hx; exact hlt))⟩, by omega, ?_⟩
        simp only [maskL, setsL, putsO, putO, bA, Nat.reduceEqDiff, ↓reduceIte, hw2, Int.natCast_add, Int.natCast_one, Int.cast_ofNat_Int]
        exact Weak.mk (by simp only [LeL, Le.refl, Le.any, Le.slNil, and_self, Int.natCast_add, Int.cast_ofNat_Int, Int.natCast_one]) (fun _ _ h => h) rfl rfl
      · skip
        have hk0 : ¬ (v < (varsI (g.take s)).length ∧ (varsI (g.take s)).getD v 0 < r.t.n) := by simpa using hb35
        have hvv := hv.1
        obtain ⟨htw, hdw⟩ := while_at (p := fun x => decide (x < r.t.n)) hv.1 (fun j x hj hx => by simpa using hv.2 j x hj hx) (fun x hx => by (have h9 := (List.getElem?_eq_some_iff.1 hx).1; rw [List.getD_eq_getElem?_getD, hx] at hk0; simp only [h9, true_and, Option.getD_some] at hk0; simpa using hk0))
        have hst : varsI (g.take (s + 1)) = (varsI (g.take s)).take v ++ r.t.n :: (varsI (g.take s)).drop v := by rw [hvt, varsS, if_pos hk1, insI, htw, hdw]
        have hst2 : (varsI (g.take (s + 1))).map intC = List.take v ((varsI (g.take s)).map intC) ++ [[.v (.int .i64 r.t.n)]] ++ List.drop v ((varsI (g.take s)).map intC) := by rw [hst]; simp [intC]
        have hb0 : (v : Int) ≤ ((varsI (g.take s)).length : Int) := by omega
        have hl1 : ((varsI (g.take s)).take v).length = v := by simp; omega
        have hl2 : ((varsI (g.take s)).drop v).length = (varsI (g.take s)).length - v := by simp
        have hq1 : v * 8 ≤ 140737488355328 := by omega
        have hq2 : v ≤ maxLen := by simp only [maxLen]; omega
        have hq3 : (v + 1) * 8 ≤ 140737488355328 := by omega
        have hq4 : v + 1 ≤ maxLen := by simp only [maxLen]; omega
        have hq5 : (v + 1 + ((varsI (g.take s)).length - v)) * 8 ≤ 140737488355328 := by omega
        have hq6 : v + 1 + ((varsI (g.take s)).length - v) ≤ maxLen := by simp only [maxLen]; omega
        have ha1 : ((List.take v ((varsI (g.take s)).map intC)).all fun y => y.all AV.one) = true := by (rw [← List.map_take]; exact intC_all _)
        have ha2 : ((List.drop v ((varsI (g.take s)).map intC)).all fun y => y.all AV.one) = true := by (rw [← List.map_drop]; exact intC_all _)
        have hl3 : (List.take v ((varsI (g.take s)).map intC)).length = v := by simp; omega
        have hl4 : (List.drop v ((varsI (g.take s)).map intC)).length = (varsI (g.take s)).length - v := by simp
        have hb9 : (0 : Int) ≤ (v : Int) := by omega
        have ht0 : List.take (varsI (g.take s)).length ((varsI (g.take s)).map intC) = (varsI (g.take s)).map intC := List.take_of_length_le (by simp)
        refine AWp_exit ?_
        simp only [thenQ, blockQ, noGotoQ, bA, Nat.reduceEqDiff, ↓reduceIte]
        refine hK22 _ ?_
        try clear hK22 K22
        refine RAny_start 18 rfl mixed ?_
        dsimp only
        refine RAny_takeK 1 rfl (by kernel_rfl) (by kernel_rfl) (by kernel_rfl) (fun _ _ h => h) fun K54 hK54 => ?_
        simp only [rHead, isE, isPE, isSE, isSl, ↓aops, ↓aop, ↓aWant, ↓aVal, bS, bA, AV.flat, AV.cl, AV.one, Value.oneCell', thenQ, blockQ, noGotoQ, ↓reduceIte, Nat.reduceEqDiff, reduceCtorEq, tyX, List.length_map, hk, getD_map_cells hr, RNode.cells, Int.natCast_add, Int.natCast_one, Int.cast_ofNat_Int, hw, ht0, List.length_append, hb0, ha1, ha2, hl3, hl4, hq1, hq2, hq3, hq4, hq5, hq6]
        refine hK54 _ ?_
        try clear hK54 K54
        refine RAny_takeK 2 rfl (by kernel_rfl) (by kernel_rfl) (by kernel_rfl) (fun _ _ h => h) fun K55 hK55 => ?_
        simp only [rHead, isE, isPE, isSE, isSl, ↓aops, ↓aop, ↓aWant, ↓aVal, bS, bA, AV.flat, AV.cl, AV.one, Value.oneCell', thenQ, blockQ, noGotoQ, ↓reduceIte, Nat.reduceEqDiff, reduceCtorEq, tyX, List.length_map, hk, getD_map_cells hr, RNode.cells, Int.natCast_add, Int.natCast_one, Int.cast_ofNat_Int, hw, ht0, List.length_append, hb0, ha1, ha2, hl3, hl4, hq1, hq2, hq3, hq4, hq5, hq6]
        refine hK55 _ ?_
        try clear hK55 K55
        refine RAny_takeK 3 rfl (by kernel_rfl) (by kernel_rfl) (by kernel_rfl) (fun _ _ h => h) fun K56 hK56 => ?_
        simp only [rHead, isE, isPE, isSE, isSl, ↓aops, ↓aop, ↓aWant, ↓aVal, bS, bA, AV.flat, AV.cl, AV.one, Value.oneCell', thenQ, blockQ, noGotoQ, ↓reduceIte, Nat.reduceEqDiff, reduceCtorEq, aMore, aSlice, aBnd, es28, Option.map_some, Option.map_none, Int.toNat_natCast, Int.toNat_zero, Int.toNat_one, Int.reduceLE, Int.natCast_nonneg, List.length_map, List.take_length, bL, Int.le_refl, tyX, hk, getD_map_cells hr, RNode.cells, Int.natCast_add, Int.natCast_one, Int.cast_ofNat_Int, hw, ht0, List.length_append, hb0, ha1, ha2, hl3, hl4, hq1, hq2, hq3, hq4, hq5, hq6]
        refine hK56 _ ?_
        try clear hK56 K56
        refine RAny_takeK 5 rfl (by kernel_rfl) (by kernel_rfl) (by kernel_rfl) (fun _ _ h => h) fun K57 hK57 => ?_
        simp only [rHead, isE, isPE, isSE, isSl, ↓aops, ↓aop, ↓aWant, ↓aVal, bS, bA, AV.flat, AV.cl, AV.one, Value.oneCell', thenQ, blockQ, noGotoQ, ↓reduceIte, Nat.reduceEqDiff, reduceCtorEq, tyX, List.length_map, hk, getD_map_cells hr, RNode.cells, Int.natCast_add, Int.natCast_one, Int.cast_ofNat_Int, hw, ht0, List.length_append, hb0, ha1, ha2, hl3, hl4, hq1, hq2, hq3, hq4, hq5, hq6]
        refine hK57 _ ?_
        try clear hK57 K57
        refine RAny_takeK 6 rfl (by kernel_rfl) (by kernel_rfl) (by kernel_rfl) (fun _ _ h => h) fun K58 hK58 => ?_
        simp only [rHead, isE, isPE, isSE, isSl, ↓aops, ↓aop, ↓aWant, ↓aVal, bS, bA, AV.flat, AV.cl, AV.one, Value.oneCell', thenQ, blockQ, noGotoQ, ↓reduceIte, Nat.reduceEqDiff, reduceCtorEq, tyX, List.length_map, hk, getD_map_cells hr, RNode.cells, Int.natCast_add, Int.natCast_one, Int.cast_ofNat_Int, hw, ht0, List.length_append, hb0, ha1, ha2, hl3, hl4, hq1, hq2, hq3, hq4, hq5, hq6]
        refine hK58 _ ?_
        try clear hK58 K58
        refine RAny_takeK 7 rfl (by kernel_rfl) (by kernel_rfl) (by kernel_rfl) (fun _ _ h => h) fun K59 hK59 => ?_
        simp only [rHead, isE, isPE, isSE, isSl, ↓aops, ↓aop, ↓aWant, ↓aVal, bS, bA, AV.flat, AV.cl, AV.one, Value.oneCell', thenQ, blockQ, noGotoQ, ↓reduceIte, Nat.reduceEqDiff, reduceCtorEq, getO, aIndexA, es27, Int.natCast_nonneg, Int.ofNat_lt, Int.toNat_natCast, List.length_map, Int.le_refl, Int.toNat_zero, Int.toNat_one, Int.reduceLE, tyX, hk, getD_map_cells hr, RNode.cells, Int.natCast_add, Int.natCast_one, Int.cast_ofNat_Int, hw, ht0, List.length_append, hb0, ha1, ha2, hl3, hl4, hq1, hq2, hq3, hq4, hq5, hq6]
        refine hK59 _ ?_
        try clear hK59 K59
        refine RAny_takeK 8 rfl (by kernel_rfl) (by kernel_rfl) (by kernel_rfl) (fun _ _ h => h) fun K60 hK60 => ?_
        simp only [rHead, isE, isPE, isSE, isSl, ↓aops, ↓aop, ↓aWant, ↓aVal, bS, bA, AV.flat, AV.cl, AV.one, Value.oneCell', thenQ, blockQ, noGotoQ, ↓reduceIte, Nat.reduceEqDiff, reduceCtorEq, aField, fo38_0, bL, Nat.reduceAdd, tyX, List.length_map, hk, getD_map_cells hr, RNode.cells, Int.natCast_add, Int.natCast_one, Int.cast_ofNat_Int, hw, ht0, List.length_append, hb0, ha1, ha2, hl3, hl4, hq1, hq2, hq3, hq4, hq5, hq6]
        refine hK60 _ ?_
        try clear hK60 K60
        refine RAny_takeK 9 rfl (by kernel_rfl) (by kernel_rfl) (by kernel_rfl) (fun _ _ h => h) fun K61 hK61 => ?_
        simp only [rHead, isE, isPE, isSE, isSl, ↓aops, ↓aop, ↓aWant, ↓aVal, bS, bA, AV.flat, AV.cl, AV.one, Value.oneCell', thenQ, blockQ, noGotoQ, ↓reduceIte, Nat.reduceEqDiff, reduceCtorEq, aField, fo32_1, bL, Nat.reduceAdd, tyX, List.length_map, hk, getD_map_cells hr, RNode.cells, Int.natCast_add, Int.natCast_one, Int.cast_ofNat_Int, hw, ht0, List.length_append, hb0, ha1, ha2, hl3, hl4, hq1, hq2, hq3, hq4, hq5, hq6]
        refine hK61 _ ?_
        try clear hK61 K61
        refine RAny_takeK 10 rfl (by kernel_rfl) (by kernel_rfl) (by kernel_rfl) (fun _ _ h => h) fun K62 hK62 => ?_
        simp only [rHead, isE, isPE, isSE, isSl, ↓aops, ↓aop, ↓aWant, ↓aVal, bS, bA, AV.flat, AV.cl, AV.one, Value.oneCell', thenQ, blockQ, noGotoQ, ↓reduceIte, Nat.reduceEqDiff, reduceCtorEq, aLoad, ti3, getO, pack, bL, Nat.reduceAdd, Nat.reduceLeDiff, tyX, List.length_map, hk, getD_map_cells hr, RNode.cells, Int.natCast_add, Int.natCast_one, Int.cast_ofNat_Int, hw, ht0, List.length_append, hb0, ha1, ha2, hl3, hl4, hq1, hq2, hq3, hq4, hq5, hq6]
        refine hK62 _ ?_
        try clear hK62 K62
        refine RAny_takeK 13 rfl (by kernel_rfl) (by kernel_rfl) (by kernel_rfl) (fun _ _ h => h) fun K63 hK63 => ?_
        simp only [rHead, isE, isPE, isSE, isSl, ↓aops, ↓aop, ↓aWant, ↓aVal, bS, bA, AV.flat, AV.cl, AV.one, Value.oneCell', thenQ, blockQ, noGotoQ, ↓reduceIte, Nat.reduceEqDiff, reduceCtorEq, tyX, List.length_map, hk, getD_map_cells hr, RNode.cells, Int.natCast_add, Int.natCast_one, Int.cast_ofNat_Int, hw, ht0, List.length_append, hb0, ha1, ha2, hl3, hl4, hq1, hq2, hq3, hq4, hq5, hq6]
        refine hK63 _ ?_
        try clear hK63 K63
        refine RAny_takeK 14 rfl (by kernel_rfl) (by kernel_rfl) (by kernel_rfl) (fun _ _ h => h) fun K64 hK64 => ?_
        simp only [rHead, isE, isPE, isSE, isSl, ↓aops, ↓aop, ↓aWant, ↓aVal, bS, bA, AV.flat, AV.cl, AV.one, Value.oneCell', thenQ, blockQ, noGotoQ, ↓reduceIte, Nat.reduceEqDiff, reduceCtorEq, tyX, List.length_map, hk, getD_map_cells hr, RNode.cells, Int.natCast_add, Int.natCast_one, Int.cast_ofNat_Int, hw, ht0, List.length_append, hb0, ha1, ha2, hl3, hl4, hq1, hq2, hq3, hq4, hq5, hq6]
        refine hK64 _ ?_
        try clear hK64 K64
        refine RAny_takeK 15 rfl (by kernel_rfl) (by kernel_rfl) (by kernel_rfl) (fun _ _ h => h) fun K65 hK65 => ?_
        simp only [rHead, isE, isPE, isSE, isSl, ↓aops, ↓aop, ↓aWant, ↓aVal, bS, bA, AV.flat, AV.cl, AV.one, Value.oneCell', thenQ, blockQ, noGotoQ, ↓reduceIte, Nat.reduceEqDiff, reduceCtorEq, aMore, aSlice, aBnd, es28, Option.map_some, Option.map_none, Int.toNat_natCast, Int.toNat_zero, Int.toNat_one, Int.reduceLE, Int.natCast_nonneg, List.length_map, List.take_length, bL, Int.le_refl, tyX, hk, getD_map_cells hr, RNode.cells, Int.natCast_add, Int.natCast_one, Int.cast_ofNat_Int, hw, ht0, List.length_append, hb0, ha1, ha2, hl3, hl4, hq1, hq2, hq3, hq4, hq5, hq6]
        refine hK65 _ ?_
        try clear hK65 K65
        refine RAny_rest ?_
        refine LAny_all2 (i := 0) (j := 11) (by kernel_rfl) ?_ ?_
        · skip
          refine aAt_op rfl rfl fun K66 hK66 => ?_
          simp only [↓aops, ↓aop, ↓aWant, ↓aVal, bS, bA, AV.flat, AV.cl, AV.one, Value.oneCell', thenQ, blockQ, noGotoQ, ↓reduceIte, Nat.reduceEqDiff, reduceCtorEq, ↓bs0_1, ↓bs0_2, ↓bs0_3, ↓bs0_4, ↓bs0_5, ↓bs0_6, ↓bs0_7, ↓bs0_8, ↓bs0_9, ↓bs0_10, ↓bs0_11, ↓bs0_12, aBuildSl, ei28, ia3, bL, List.range_succ, List.range_zero, List.forall_mem_cons, List.not_mem_nil, false_imp_iff, implies_true, Nat.reduceAdd, Nat.reduceLeDiff, forall_eq, List.mem_singleton, tyX, List.length_map, hk, getD_map_cells hr, RNode.cells, Int.natCast_add, Int.natCast_one, Int.cast_ofNat_Int, hw, ht0, List.length_append, hb0, ha1, ha2, hl3, hl4, hq1, hq2, hq3, hq4, hq5, hq6]
          refine hK66 _ ?_
          try clear hK66 K66
          refine LAny_all2 (i := 4) (j := 11) (by kernel_rfl) ?_ ?_
          · skip
            refine aAt_op rfl rfl fun K67 hK67 => ?_
            simp only [↓aops, ↓aop, ↓aWant, ↓aVal, bS, bA, AV.flat, AV.cl, AV.one, Value.oneCell', thenQ, blockQ, noGotoQ, ↓reduceIte, Nat.reduceEqDiff, reduceCtorEq, aAppend, ei28, slIn, slAt, slOf, List.length_map, getO, putO, bL, Nat.reduceAdd, tyX, hk, getD_map_cells hr, RNode.cells, Int.natCast_add, Int.natCast_one, Int.cast_ofNat_Int, hw, ht0, List.length_append, hb0, ha1, ha2, hl3, hl4, hq1, hq2, hq3, hq4, hq5, hq6]
            refine hK67 _ ?_
            try clear hK67 K67
            refine LAny_all1 (i := 11) (by kernel_rfl) ?_
            · skip
              refine aAt_op rfl rfl fun K68 hK68 => ?_
              simp only [↓aops, ↓aop, ↓aWant, ↓aVal, bS, bA, AV.flat, AV.cl, AV.one, Value.oneCell', thenQ, blockQ, noGotoQ, ↓reduceIte, Nat.reduceEqDiff, reduceCtorEq, ↓bs1_1, ↓bs1_2, ↓bs1_3, ↓bs1_4, ↓bs1_5, ↓bs1_6, ↓bs1_7, ↓bs1_8, ↓bs1_9, ↓bs1_10, ↓bs1_11, ↓bs1_12, aBuildSl, ei28, ia3, bL, List.range_succ, List.range_zero, List.forall_mem_cons, List.not_mem_nil, false_imp_iff, implies_true, Nat.reduceAdd, Nat.reduceLeDiff, forall_eq, List.mem_singleton, tyX, List.length_map, hk, getD_map_cells hr, RNode.cells, Int.natCast_add, Int.natCast_one, Int.cast_ofNat_Int, hw, ht0, List.length_append, hb0, ha1, ha2, hl3, hl4, hq1, hq2, hq3, hq4, hq5, hq6]
              refine hK68 _ ?_
              try clear hK68 K68
              refine LAny_all1 (i := 12) (by kernel_rfl) ?_
              · skip
                refine aAt_op rfl rfl fun K69 hK69 => ?_
                simp only [↓aops, ↓aop, ↓aWant, ↓aVal, bS, bA, AV.flat, AV.cl, AV.one, Value.oneCell', thenQ, blockQ, noGotoQ, ↓reduceIte, Nat.reduceEqDiff, reduceCtorEq, aAppend, ei28, slIn, slAt, slOf, List.length_map, getO, putO, bL, Nat.reduceAdd, tyX, hk, getD_map_cells hr, RNode.cells, Int.natCast_add, Int.natCast_one, Int.cast_ofNat_Int, hw, ht0, List.length_append, hb0, ha1, ha2, hl3, hl4, hq1, hq2, hq3, hq4, hq5, hq6]
                refine hK69 _ ?_
                try clear hK69 K69
                refine LAny_all1 (i := 16) (by kernel_rfl) ?_
                · skip
                  refine aAt_op rfl rfl fun K70 hK70 => ?_
                  simp only [↓aops, ↓aop, ↓aWant, ↓aVal, bS, bA, AV.flat, AV.cl, AV.one, Value.oneCell', thenQ, blockQ, noGotoQ, ↓reduceIte, Nat.reduceEqDiff, reduceCtorEq, aAppend, ei28, slIn, slAt, slOf, List.length_map, getO, putO, bL, Nat.reduceAdd, tyX, hk, getD_map_cells hr, RNode.cells, Int.natCast_add, Int.natCast_one, Int.cast_ofNat_Int, hw, ht0, List.length_append, hb0, ha1, ha2, hl3, hl4, hq1, hq2, hq3, hq4, hq5, hq6]
                  refine hK70 _ ?_
                  try clear hK70 K70
                  refine LAny_all1 (i := 17) (by kernel_rfl) ?_
                  · skip
                    refine aAt_op rfl rfl fun K71 hK71 => ?_
                    simp only [↓aops, ↓aop, ↓aWant, ↓aVal, bS, bA, AV.flat, AV.cl, AV.one, Value.oneCell', thenQ, blockQ, noGotoQ, ↓reduceIte, Nat.reduceEqDiff, reduceCtorEq, tyX, List.length_map, hk, getD_map_cells hr, RNode.cells, Int.natCast_add, Int.natCast_one, Int.cast_ofNat_Int, hw, ht0, List.length_append, hb0, ha1, ha2, hl3, hl4, hq1, hq2, hq3, hq4, hq5, hq6]
                    refine hK71 _ ?_
                    try clear hK71 K71
                    refine LAny_done (by kernel_rfl) ?_
                    simp only [thenQ, blockQ, noGotoQ]
                    refine hK10 _ ?_
                    try clear hK10 K10
                    refine AWp_region ?_
                    refine aops_chunk 1 fun C72 hC72 => ?_
                    simp only [bL, ↓aops, ↓aop, ↓aWant, ↓aVal, bS, bA, AV.flat, AV.cl, AV.one, Value.oneCell', thenQ, blockQ, noGotoQ, ↓reduceIte, Nat.reduceEqDiff, reduceCtorEq, tyX, List.length_map, hk, getD_map_cells hr, RNode.cells, Int.natCast_add, Int.natCast_one, Int.cast_ofNat_Int, hw, ht0, List.length_append, hb0, ha1, ha2, hl3, hl4, hq1, hq2, hq3, hq4, hq5, hq6]
                    refine hC72 _ ?_
                    try clear hC72 C72
                    simp only [bL]
                    refine aops_chunk 1 fun C73 hC73 => ?_
                    simp only [bL, ↓aops, ↓aop, ↓aWant, ↓aVal, bS, bA, AV.flat, AV.cl, AV.one, Value.oneCell', thenQ, blockQ, noGotoQ, ↓reduceIte, Nat.reduceEqDiff, reduceCtorEq, aBin, tyX, List.length_map, hk, getD_map_cells hr, RNode.cells, Int.natCast_add, Int.natCast_one, Int.cast_ofNat_Int, hw, ht0, List.length_append, hb0, ha1, ha2, hl3, hl4, hq1, hq2, hq3, hq4, hq5, hq6]
                    refine hC73 _ ?_
                    try clear hC73 C73
                    simp only [bL]
                    simp only [↓aops, ↓aop, ↓aWant, ↓aVal, bS, bA, AV.flat, AV.cl, AV.one, Value.oneCell', thenQ, blockQ, noGotoQ, ↓reduceIte, Nat.reduceEqDiff, reduceCtorEq, tyX, List.length_map, hk, getD_map_cells hr, RNode.cells, Int.natCast_add, Int.natCast_one, Int.cast_ofNat_Int, hw, ht0, List.length_append, hb0, ha1, ha2, hl3, hl4, hq1, hq2, hq3, hq4, hq5, hq6]
                    refine ⟨(s + 1), (by omega), by omega, ?_⟩
                    simp only [maskL, setsL, putsO, putO, bA, Nat.reduceEqDiff, ↓reduceIte, Int.natCast_add, Int.natCast_one]
                    refine Weak.bare ?_ rfl ?_
                    · simp only [LeL, Le.refl, Le.any, and_self, and_true, true_and]
                      first | (rw [hst2]; exact Le.oslL) | (rw [hst]; exact Le.refl _)
                    · repeat' first | exact trivial | exact .any _ | exact .v _ _ | exact Und.data (RNode.dataSl _) | exact Und.data (dataInts _) | (refine ⟨?_, ?_⟩)
          · skip
            refine aAt_op rfl rfl fun K74 hK74 => ?_
            simp only [↓aops, ↓aop, ↓aWant, ↓aVal, bS, bA, AV.flat, AV.cl, AV.one, Value.oneCell', thenQ, blockQ, noGotoQ, ↓reduceIte, Nat.reduceEqDiff, reduceCtorEq, ↓bs1_1, ↓bs1_2, ↓bs1_3, ↓bs1_4, ↓bs1_5, ↓bs1_6, ↓bs1_7, ↓bs1_8, ↓bs1_9, ↓bs1_10, ↓bs1_11, ↓bs1_12, aBuildSl, ei28, ia3, bL, List.range_succ, List.range_zero, List.forall_mem_cons, List.not_mem_nil, false_imp_iff, implies_true, Nat.reduceAdd, Nat.reduceLeDiff, forall_eq, List.mem_singleton, tyX, List.length_map, hk, getD_map_cells hr, RNode.cells, Int.natCast_add, Int.natCast_one, Int.cast_ofNat_Int, hw, ht0, List.length_append, hb0, ha1, ha2, hl3, hl4, hq1, hq2, hq3, hq4, hq5, hq6]
            refine hK74 _ ?_
            try clear hK74 K74
            refine LAny_all1 (i := 4) (by kernel_rfl) ?_
            · skip
              refine aAt_op rfl rfl fun K75 hK75 => ?_
              simp only [↓aops, ↓aop, ↓aWant, ↓aVal, bS, bA, AV.flat, AV.cl, AV.one, Value.oneCell', thenQ, blockQ, noGotoQ, ↓reduceIte, Nat.reduceEqDiff, reduceCtorEq, aAppend, ei28, slIn, slAt, slOf, List.length_map, getO, putO, bL, Nat.reduceAdd, tyX, hk, getD_map_cells hr, RNode.cells, Int.natCast_add, Int.natCast_one, Int.cast_ofNat_Int, hw, ht0, List.length_append, hb0, ha1, ha2, hl3, hl4, hq1, hq2, hq3, hq4, hq5, hq6]
              refine hK75 _ ?_
              try clear hK75 K75
              refine LAny_all1 (i := 12) (by kernel_rfl) ?_
              · skip
                refine aAt_op rfl rfl fun K76 hK76 => ?_
                simp only [↓aops, ↓aop, ↓aWant, ↓aVal, bS, bA, AV.flat, AV.cl, AV.one, Value.oneCell', thenQ, blockQ, noGotoQ, ↓reduceIte, Nat.reduceEqDiff, reduceCtorEq, aAppend, ei28, slIn, slAt, slOf, List.length_map, getO, putO, bL, Nat.reduceAdd, tyX, hk, getD_map_cells hr, RNode.cells, Int.natCast_add, Int.natCast_one, Int.cast_ofNat_Int, hw, ht0, List.length_append, hb0, ha1, ha2, hl3, hl4, hq1, hq2, hq3, hq4, hq5, hq6]
                refine hK76 _ ?_
                try clear hK76 K76
                refine LAny_all1 (i := 16) (by kernel_rfl) ?_
                · skip
                  refine aAt_op rfl rfl fun K77 hK77 => ?_
                  simp only [↓aops, ↓aop, ↓aWant, ↓aVal, bS, bA, AV.flat, AV.cl, AV.one, Value.oneCell', thenQ, blockQ, noGotoQ, ↓reduceIte, Nat.reduceEqDiff, reduceCtorEq, aAppend, ei28, slIn, slAt, slOf, List.length_map, getO, putO, bL, Nat.reduceAdd, tyX, hk, getD_map_cells hr, RNode.cells, Int.natCast_add, Int.natCast_one, Int.cast_ofNat_Int, hw, ht0, List.length_append, hb0, ha1, ha2, hl3, hl4, hq1, hq2, hq3, hq4, hq5, hq6]
                  refine hK77 _ ?_
                  try clear hK77 K77
                  refine LAny_all1 (i := 17) (by kernel_rfl) ?_
                  · skip
                    refine aAt_op rfl rfl fun K78 hK78 => ?_
                    simp only [↓aops, ↓aop, ↓aWant, ↓aVal, bS, bA, AV.flat, AV.cl, AV.one, Value.oneCell', thenQ, blockQ, noGotoQ, ↓reduceIte, Nat.reduceEqDiff, reduceCtorEq, tyX, List.length_map, hk, getD_map_cells hr, RNode.cells, Int.natCast_add, Int.natCast_one, Int.cast_ofNat_Int, hw, ht0, List.length_append, hb0, ha1, ha2, hl3, hl4, hq1, hq2, hq3, hq4, hq5, hq6]
                    refine hK78 _ ?_
                    try clear hK78 K78
                    refine LAny_done (by kernel_rfl) ?_
                    simp only [thenQ, blockQ, noGotoQ]
                    refine hK10 _ ?_
                    try clear hK10 K10
                    refine AWp_region ?_
                    refine aops_chunk 1 fun C79 hC79 => ?_
                    simp only [bL, ↓aops, ↓aop, ↓aWant, ↓aVal, bS, bA, AV.flat, AV.cl, AV.one, Value.oneCell', thenQ, blockQ, noGotoQ, ↓reduceIte, Nat.reduceEqDiff, reduceCtorEq, tyX, List.length_map, hk, getD_map_cells hr, RNode.cells, Int.natCast_add, Int.natCast_one, Int.cast_ofNat_Int, hw, ht0, List.length_append, hb0, ha1, ha2, hl3, hl4, hq1, hq2, hq3, hq4, hq5, hq6]
                    refine hC79 _ ?_
                    try clear hC79 C79
                    simp only [bL]
                    refine aops_chunk 1 fun C80 hC80 => ?_
                    simp only [bL, ↓aops, ↓aop, ↓aWant, ↓aVal, bS, bA, AV.flat, AV.cl, AV.one, Value.oneCell', thenQ, blockQ, noGotoQ, ↓reduceIte, Nat.reduceEqDiff, reduceCtorEq, aBin, tyX, List.length_map, hk, getD_map_cells hr, RNode.cells, Int.natCast_add, Int.natCast_one, Int.cast_ofNat_Int, hw, ht0, List.length_append, hb0, ha1, ha2, hl3, hl4, hq1, hq2, hq3, hq4, hq5, hq6]
                    refine hC80 _ ?_
                    try clear hC80 C80
                    simp only [bL]
                    simp only [↓aops, ↓aop, ↓aWant, ↓aVal, bS, bA, AV.flat, AV.cl, AV.one, Value.oneCell', thenQ, blockQ, noGotoQ, ↓reduceIte, Nat.reduceEqDiff, reduceCtorEq, tyX, List.length_map, hk, getD_map_cells hr, RNode.cells, Int.natCast_add, Int.natCast_one, Int.cast_ofNat_Int, hw, ht0, List.length_append, hb0, ha1, ha2, hl3, hl4, hq1, hq2, hq3, hq4, hq5, hq6]
                    refine ⟨(s + 1), (by omega), by omega, ?_⟩
                    simp only [maskL, setsL, putsO, putO, bA, Nat.reduceEqDiff, ↓reduceIte, Int.natCast_add, Int.natCast_one]
                    refine Weak.bare ?_ rfl ?_
                    · simp only [LeL, Le.refl, Le.any, and_self, and_true, true_and]
                      first | (rw [hst2]; exact Le.oslL) | (rw [hst]; exact Le.refl _)
                    · repeat' first | exact trivial | exact .any _ | exact .v _ _ | exact Und.data (RNode.dataSl _) | exact Und.data (dataInts _) | (refine ⟨?_, ?_⟩)
        · skip
          refine aAt_op rfl rfl fun K81 hK81 => ?_
          simp only [↓aops, ↓aop, ↓aWant, ↓aVal, bS, bA, AV.flat, AV.cl, AV.one, Value.oneCell', thenQ, blockQ, noGotoQ, ↓reduceIte, Nat.reduceEqDiff, reduceCtorEq, ↓bs1_1, ↓bs1_2, ↓bs1_3, ↓bs1_4, ↓bs1_5, ↓bs1_6, ↓bs1_7, ↓bs1_8, ↓bs1_9, ↓bs1_10, ↓bs1_11, ↓bs1_12, aBuildSl, ei28, ia3, bL, List.range_succ, List.range_zero, List.forall_mem_cons, List.not_mem_nil, false_imp_iff, implies_true, Nat.reduceAdd, Nat.reduceLeDiff, forall_eq, List.mem_singleton, tyX, List.length_map, hk, getD_map_cells hr, RNode.cells, Int.natCast_add, Int.natCast_one, Int.cast_ofNat_Int, hw, ht0, List.length_append, hb0, ha1, ha2, hl3, hl4, hq1, hq2, hq3, hq4, hq5, hq6]
          refine hK81 _ ?_
          try clear hK81 K81
          refine LAny_all1 (i := 0) (by kernel_rfl) ?_
          · skip
            refine aAt_op rfl rfl fun K82 hK82 => ?_
            simp only [↓aops, ↓aop, ↓aWant, ↓aVal, bS, bA, AV.flat, AV.cl, AV.one, Value.oneCell', thenQ, blockQ, noGotoQ, ↓reduceIte, Nat.reduceEqDiff, reduceCtorEq, ↓bs0_1, ↓bs0_2, ↓bs0_3, ↓bs0_4, ↓bs0_5, ↓bs0_6, ↓bs0_7, ↓bs0_8, ↓bs0_9, ↓bs0_10, ↓bs0_11, ↓bs0_12, aBuildSl, ei28, ia3, bL, List.range_succ, List.range_zero, List.forall_mem_cons, List.not_mem_nil, false_imp_iff, implies_true, Nat.reduceAdd, Nat.reduceLeDiff, forall_eq, List.mem_singleton, tyX, List.length_map, hk, getD_map_cells hr, RNode.cells, Int.natCast_add, Int.natCast_one, Int.cast_ofNat_Int, hw, ht0, List.length_append, hb0, ha1, ha2, hl3, hl4, hq1, hq2, hq3, hq4, hq5, hq6]
            refine hK82 _ ?_
            try clear hK82 K82
            refine LAny_all1 (i := 4) (by kernel_rfl) ?_
            · skip
              refine aAt_op rfl rfl fun K83 hK83 => ?_
              simp only [↓aops, ↓aop, ↓aWant, ↓aVal, bS, bA, AV.flat, AV.cl, AV.one, Value.oneCell', thenQ, blockQ, noGotoQ, ↓reduceIte, Nat.reduceEqDiff, reduceCtorEq, aAppend, ei28, slIn, slAt, slOf, List.length_map, getO, putO, bL, Nat.reduceAdd, tyX, hk, getD_map_cells hr, RNode.cells, Int.natCast_add, Int.natCast_one, Int.cast_ofNat_Int, hw, ht0, List.length_append, hb0, ha1, ha2, hl3, hl4, hq1, hq2, hq3, hq4, hq5, hq6]
              refine hK83 _ ?_
              try clear hK83 K83
              refine LAny_all1 (i := 12) (by kernel_rfl) ?_
              · skip
                refine aAt_op rfl rfl fun K84 hK84 => ?_
                simp only [↓aops, ↓aop, ↓aWant, ↓aVal, bS, bA, AV.flat, AV.cl, AV.one, Value.oneCell', thenQ, blockQ, noGotoQ, ↓reduceIte, Nat.reduceEqDiff, reduceCtorEq, aAppend, ei28, slIn, slAt, slOf, List.length_map, getO, putO, bL, Nat.reduceAdd, tyX, hk, getD_map_cells hr, RNode.cells, Int.natCast_add, Int.natCast_one, Int.cast_ofNat_Int, hw, ht0, List.length_append, hb0, ha1, ha2, hl3, hl4, hq1, hq2, hq3, hq4, hq5, hq6]
                refine hK84 _ ?_
                try clear hK84 K84
                refine LAny_all1 (i := 16) (by kernel_rfl) ?_
                · skip
                  refine aAt_op rfl rfl fun K85 hK85 => ?_
                  simp only [↓aops, ↓aop, ↓aWant, ↓aVal, bS, bA, AV.flat, AV.cl, AV.one, Value.oneCell', thenQ, blockQ, noGotoQ, ↓reduceIte, Nat.reduceEqDiff, reduceCtorEq, aAppend, ei28, slIn, slAt, slOf, List.length_map, getO, putO, bL, Nat.reduceAdd, tyX, hk, getD_map_cells hr, RNode.cells, Int.natCast_add, Int.natCast_one, Int.cast_ofNat_Int, hw, ht0, List.length_append, hb0, ha1, ha2, hl3, hl4, hq1, hq2, hq3, hq4, hq5, hq6]
                  refine hK85 _ ?_
                  try clear hK85 K85
                  refine LAny_all1 (i := 17) (by kernel_rfl) ?_
                  · skip
                    refine aAt_op rfl rfl fun K86 hK86 => ?_
                    simp only [↓aops, ↓aop, ↓aWant, ↓aVal, bS, bA, AV.flat, AV.cl, AV.one, Value.oneCell', thenQ, blockQ, noGotoQ, ↓reduceIte, Nat.reduceEqDiff, reduceCtorEq, tyX, List.length_map, hk, getD_map_cells hr, RNode.cells, Int.natCast_add, Int.natCast_one, Int.cast_ofNat_Int, hw, ht0, List.length_append, hb0, ha1, ha2, hl3, hl4, hq1, hq2, hq3, hq4, hq5, hq6]
                    refine hK86 _ ?_
                    try clear hK86 K86
                    refine LAny_done (by kernel_rfl) ?_
                    simp only [thenQ, blockQ, noGotoQ]
                    refine hK10 _ ?_
                    try clear hK10 K10
                    refine AWp_region ?_
                    refine aops_chunk 1 fun C87 hC87 => ?_
                    simp only [bL, ↓aops, ↓aop, ↓aWant, ↓aVal, bS, bA, AV.flat, AV.cl, AV.one, Value.oneCell', thenQ, blockQ, noGotoQ, ↓reduceIte, Nat.reduceEqDiff, reduceCtorEq, tyX, List.length_map, hk, getD_map_cells hr, RNode.cells, Int.natCast_add, Int.natCast_one, Int.cast_ofNat_Int, hw, ht0, List.length_append, hb0, ha1, ha2, hl3, hl4, hq1, hq2, hq3, hq4, hq5, hq6]
                    refine hC87 _ ?_
                    try clear hC87 C87
                    simp only [bL]
                    refine aops_chunk 1 fun C88 hC88 => ?_
                    simp only [bL, ↓aops, ↓aop, ↓aWant, ↓aVal, bS, bA, AV.flat, AV.cl, AV.one, Value.oneCell', thenQ, blockQ, noGotoQ, ↓reduceIte, Nat.reduceEqDiff, reduceCtorEq, aBin, tyX, List.length_map, hk, getD_map_cells hr, RNode.cells, Int.natCast_add, Int.natCast_one, Int.cast_ofNat_Int, hw, ht0, List.length_append, hb0, ha1, ha2, hl3, hl4, hq1, hq2, hq3, hq4, hq5, hq6]
                    refine hC88 _ ?_
                    try clear hC88 C88
                    simp only [bL]
                    simp only [↓aops, ↓aop, ↓aWant, ↓aVal, bS, bA, AV.flat, AV.cl, AV.one, Value.oneCell', thenQ, blockQ, noGotoQ, ↓reduceIte, Nat.reduceEqDiff, reduceCtorEq, tyX, List.length_map, hk, getD_map_cells hr, RNode.cells, Int.natCast_add, Int.natCast_one, Int.cast_ofNat_Int, hw, ht0, List.length_append, hb0, ha1, ha2, hl3, hl4, hq1, hq2, hq3, hq4, hq5, hq6]
                    refine ⟨(s + 1), (by omega), by omega, ?_⟩
                    simp only [maskL, setsL, putsO, putO, bA, Nat.reduceEqDiff, ↓reduceIte, Int.natCast_add, Int.natCast_one]
                    refine Weak.bare ?_ rfl ?_
                    · simp only [LeL, Le.refl, Le.any, and_self, and_true, true_and]
                      first | (rw [hst2]; exact Le.oslL) | (rw [hst]; exact Le.refl _)
                    · repeat' first | exact trivial | exact .any _ | exact .v _ _ | exact Und.data (RNode.dataSl _) | exact Und.data (dataInts _) | (refine ⟨?_, ?_⟩)
  · skip
    have hks : s = g.length := by simp at hb9; omega
    refine AWp_exit ?_
    simp only [thenQ, blockQ, noGotoQ, bA, Nat.reduceEqDiff, ↓reduceIte]
    refine hK3 _ ?_
    try clear hK3 K3
    refine AWp_seqK fun K89 hK89 => ?_
    refine AWp_region ?_
    refine aops_chunk 1 fun C90 hC90 => ?_
    simp only [bL, ↓aops, ↓aop, ↓aWant, ↓aVal, bS, bA, AV.flat, AV.cl, AV.one, Value.oneCell', thenQ, blockQ, noGotoQ, ↓reduceIte, Nat.reduceEqDiff, reduceCtorEq, tyX, List.length_map]
    refine hC90 _ ?_
    try clear hC90 C90
    simp only [bL]
    simp only [↓aops, ↓aop, ↓aWant, ↓aVal, bS, bA, AV.flat, AV.cl, AV.one, Value.oneCell', thenQ, blockQ, noGotoQ, ↓reduceIte, Nat.reduceEqDiff, reduceCtorEq, tyX, List.length_map]
    refine hK89 _ ?_
    try clear hK89 K89
    refine AWp_ret ?_
    try simp only [thenQ, blockQ, noGotoQ, retQ, aRes, tupOf, bS, bA]
    rw [hks, List.take_length]; exact Le.refl _
end Go.Proofs.Ytohdoloalolpfaa
