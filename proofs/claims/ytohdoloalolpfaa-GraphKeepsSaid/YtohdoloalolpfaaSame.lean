import Derived.Test.YtohdoloalolpfaaFx
namespace Go.Proofs.Ytohdoloalolpfaa
open Go Go.RowKit
set_option maxRecDepth 100000
set_option linter.unusedSimpArgs false
set_option linter.unusedVariables false

theorem Ty.ind {C : Ty → Prop} (h : ∀ T, (∀ p ∈ T.ps, C p) → C T) : ∀ T, C T := by
  have key : ∀ n, ∀ T : Ty, SizeOf.sizeOf T ≤ n → C T := by
    intro n
    induction n with
    | zero => intro T hT; cases T; simp at hT
    | succ n ih =>
      intro T hT
      refine h T (fun p hp => ih p ?_)
      cases T with
      | mk k m ps =>
        have := List.sizeOf_lt_of_mem (show p ∈ ps from hp)
        simp at hT
        omega
  exact fun T => key _ T (Nat.le_refl _)
mutual
def Ty.same : Ty → Ty → Bool
  | .mk k n ps, .mk k' n' ps' => k == k' && n == n' && Ty.sameL ps ps'
def Ty.sameL : List Ty → List Ty → Bool
  | [], [] => true
  | p :: ps, q :: qs => Ty.same p q && Ty.sameL ps qs
  | _, _ => false
end
theorem Ty.same_eq (a b : Ty) : a.same b = (a.k == b.k && a.n == b.n && Ty.sameL a.ps b.ps) := by cases a; cases b; simp [Ty.same, Ty.k, Ty.n, Ty.ps]
theorem Ty.sameL_len : ∀ {ps qs : List Ty}, ps.length ≠ qs.length → Ty.sameL ps qs = false
  | [], [], h => absurd rfl h
  | [], _ :: _, _ => by simp [Ty.sameL]
  | _ :: _, [], _ => by simp [Ty.sameL]
  | p :: ps, q :: qs, h => by simp [Ty.sameL, Ty.sameL_len (ps := ps) (qs := qs) (by simpa using h)]
theorem Ty.sameL_false : ∀ {ps qs : List Ty} {k : Nat} {p q : Ty}, ps[k]? = some p → qs[k]? = some q → p.same q = false → Ty.sameL ps qs = false
  | p :: ps, q :: qs, 0, _, _, h1, h2, h => by simp at h1 h2; subst h1; subst h2; simp [Ty.sameL, h]
  | p :: ps, q :: qs, k + 1, _, _, h1, h2, h => by simp [Ty.sameL, Ty.sameL_false (k := k) (by simpa using h1) (by simpa using h2) h]
  | [], _, _, _, _, h1, _, _ => by simp at h1
  | _ :: _, [], _, _, _, _, h2, _ => by simp at h2
theorem Ty.sameL_true : ∀ {ps qs : List Ty}, ps.length = qs.length → (∀ (k : Nat) (p q : Ty), ps[k]? = some p → qs[k]? = some q → p.same q = true) → Ty.sameL ps qs = true
  | [], [], _, _ => by simp [Ty.sameL]
  | p :: ps, q :: qs, hl, h => by
    have h1 := h 0 p q rfl rfl
    have h2 := Ty.sameL_true (ps := ps) (qs := qs) (by simpa using hl) (fun k p q hp hq => h (k + 1) p q (by simpa using hp) (by simpa using hq))
    simp [Ty.sameL, h1, h2]

theorem Same_pure : ∀ (T1 T2 : Ty), APure Try.prog 15 [.agg T1.cells, .agg T2.cells] (.v (.bool (T1.same T2))) := by
  refine Ty.ind fun T1 ih => ?_
  intro T2
  refine APure.mk (.cons T1.dataAgg (.cons T2.dataAgg .nil)) (.v _) ?_
  refine ACalls_intro Try.func15 (by kernel_rfl) rfl (by rw [Try.ntmps15]; simp) (fun hm => ?_)
  simp only [Try.ntmps15, Try.results15, List.length_cons, List.length_nil, Nat.reduceAdd, Nat.reduceSub, List.replicate_succ, List.replicate_zero, List.cons_append, List.nil_append]
  have hm1 := hm.wide (t := T1) (by simp)
  refine AWp_seqK fun K1 hK1 => ?_
  refine AWp_region ?_
  simp only [↓aops, ↓aop, ↓aWant, ↓aVal, St.ev, St.get, St.put, St.new, List.getD_cons_zero, List.getD_cons_succ, List.set_cons_zero, List.set_cons_succ, AV.flat, AV.cl, AV.one, Value.oneCell', true_and, and_true, thenQ, blockQ, if_true, if_false, ↓reduceIte, Bool.false_eq_true, Bool.not_true, Bool.not_false, Nat.reduceEqDiff, reduceCtorEq, Ty.cells_len, Ty.cells_take1, Ty.cells_drop1, Ty.cells_drop2, Ty.cells_take3]
  refine hK1 _ ?_
  try clear hK1 K1
  refine AWp_seqK fun K2 hK2 => ?_
  refine AWp_seqK fun K3 hK3 => ?_
  refine AWp_region ?_
  refine aops_chunk 6 fun C4 hC4 => ?_
  simp only [List.take_succ_cons, List.take_zero, ↓aops, ↓aop, ↓aWant, ↓aVal, St.ev, St.get, St.put, St.new, List.getD_cons_zero, List.getD_cons_succ, List.set_cons_zero, List.set_cons_succ, AV.flat, AV.cl, AV.one, Value.oneCell', true_and, and_true, thenQ, blockQ, if_true, if_false, ↓reduceIte, Bool.false_eq_true, Bool.not_true, Bool.not_false, Nat.reduceEqDiff, reduceCtorEq, aField, fo32_0, Nat.zero_add, Nat.reduceAdd, Nat.add_zero, List.drop_succ_cons, List.drop_zero, aLoad, ti3, getO, pack, List.length_cons, List.length_nil, Nat.reduceLeDiff, Nat.le_refl, aBin, Ty.cells_len, Ty.cells_take1, Ty.cells_drop1, Ty.cells_drop2, Ty.cells_take3]
  refine hC4 _ ?_
  try clear hC4 C4
  simp only [List.drop_succ_cons, List.drop_zero]
  refine aops_case 11 (by rfl) (fun hc11 => ?_) (fun hc11 => ?_)
  · simp only [List.set_cons_zero, List.set_cons_succ]
    simp only [↓aops, ↓aop, ↓aWant, ↓aVal, St.ev, St.get, St.put, St.new, List.getD_cons_zero, List.getD_cons_succ, List.set_cons_zero, List.set_cons_succ, AV.flat, AV.cl, AV.one, Value.oneCell', true_and, and_true, thenQ, blockQ, if_true, if_false, ↓reduceIte, Bool.false_eq_true, Bool.not_true, Bool.not_false, Nat.reduceEqDiff, reduceCtorEq, List.getElem?_cons_zero, List.getElem?_cons_succ, Option.bind_some, undef, aField, fo32_1, Nat.zero_add, Nat.reduceAdd, Nat.add_zero, List.drop_succ_cons, List.drop_zero, aLoad, ti3, getO, pack, List.length_cons, List.length_nil, Nat.reduceLeDiff, Nat.le_refl, List.take_succ_cons, List.take_zero, aBin, aBool, fo32_2, ti22, aLen, ln22, List.length_map, Ty.cells_len, Ty.cells_take1, Ty.cells_drop1, Ty.cells_drop2, Ty.cells_take3]
    refine hK3 _ ?_
    try clear hK3 K3
    refine AWp_cond (b := true) (by rfl) (fun _ => ?_) (fun hb26 => (by cases hb26))
    refine AWp_seqK fun K5 hK5 => ?_
    refine AWp_region ?_
    simp only [↓aops, ↓aop, ↓aWant, ↓aVal, St.ev, St.get, St.put, St.new, List.getD_cons_zero, List.getD_cons_succ, List.set_cons_zero, List.set_cons_succ, AV.flat, AV.cl, AV.one, Value.oneCell', true_and, and_true, thenQ, blockQ, if_true, if_false, ↓reduceIte, Bool.false_eq_true, Bool.not_true, Bool.not_false, Nat.reduceEqDiff, reduceCtorEq, Ty.cells_len, Ty.cells_take1, Ty.cells_drop1, Ty.cells_drop2, Ty.cells_take3]
    refine hK5 _ ?_
    try clear hK5 K5
    refine AWp_ret ?_
    simp only [thenQ, blockQ, retQ, aRes, tupOf, St.get, List.getD_cons_zero, List.getD_cons_succ]
    first | (rw [Ty.same_eq]; simp_all; done) | (rw [Ty.same_eq]; simp at hb45; rw [Ty.sameL_false hp hq hb45]; simp; done) | (rw [Ty.same_eq]; simp at hb26; rw [Ty.sameL_len (by omega)]; simp; done) | (rw [Ty.same_eq, Ty.sameL_true e3 (fun i p q h1 h2 => hs.2 i p q (by have := (List.getElem?_eq_some_iff.1 h1).1; omega) h1 h2)]; simp_all; done) | skip
  · simp only [List.set_cons_zero, List.set_cons_succ]
    refine aops_chunk 7 fun C6 hC6 => ?_
    simp only [List.take_succ_cons, List.take_zero, ↓aops, ↓aop, ↓aWant, ↓aVal, St.ev, St.get, St.put, St.new, List.getD_cons_zero, List.getD_cons_succ, List.set_cons_zero, List.set_cons_succ, AV.flat, AV.cl, AV.one, Value.oneCell', true_and, and_true, thenQ, blockQ, if_true, if_false, ↓reduceIte, Bool.false_eq_true, Bool.not_true, Bool.not_false, Nat.reduceEqDiff, reduceCtorEq, List.getElem?_cons_zero, List.getElem?_cons_succ, Option.bind_some, undef, aField, fo32_1, Nat.zero_add, Nat.reduceAdd, Nat.add_zero, List.drop_succ_cons, List.drop_zero, aLoad, ti3, getO, pack, List.length_cons, List.length_nil, Nat.reduceLeDiff, Nat.le_refl, aBin, aBool, Ty.cells_len, Ty.cells_take1, Ty.cells_drop1, Ty.cells_drop2, Ty.cells_take3]
    refine hC6 _ ?_
    try clear hC6 C6
    simp only [List.drop_succ_cons, List.drop_zero]
    refine aops_case 18 (by rfl) (fun hc18 => ?_) (fun hc18 => ?_)
    · simp only [List.set_cons_zero, List.set_cons_succ]
      simp only [↓aops, ↓aop, ↓aWant, ↓aVal, St.ev, St.get, St.put, St.new, List.getD_cons_zero, List.getD_cons_succ, List.set_cons_zero, List.set_cons_succ, AV.flat, AV.cl, AV.one, Value.oneCell', true_and, and_true, thenQ, blockQ, if_true, if_false, ↓reduceIte, Bool.false_eq_true, Bool.not_true, Bool.not_false, Nat.reduceEqDiff, reduceCtorEq, List.getElem?_cons_zero, List.getElem?_cons_succ, Option.bind_some, undef, aField, fo32_2, Nat.zero_add, Nat.reduceAdd, Nat.add_zero, List.drop_succ_cons, List.drop_zero, aLoad, ti22, getO, pack, List.length_cons, List.length_nil, Nat.reduceLeDiff, Nat.le_refl, List.take_succ_cons, List.take_zero, aLen, ln22, List.length_map, aBin, aBool, Ty.cells_len, Ty.cells_take1, Ty.cells_drop1, Ty.cells_drop2, Ty.cells_take3]
      refine hK3 _ ?_
      try clear hK3 K3
      refine AWp_cond (b := true) (by rfl) (fun _ => ?_) (fun hb26 => (by cases hb26))
      refine AWp_seqK fun K7 hK7 => ?_
      refine AWp_region ?_
      simp only [↓aops, ↓aop, ↓aWant, ↓aVal, St.ev, St.get, St.put, St.new, List.getD_cons_zero, List.getD_cons_succ, List.set_cons_zero, List.set_cons_succ, AV.flat, AV.cl, AV.one, Value.oneCell', true_and, and_true, thenQ, blockQ, if_true, if_false, ↓reduceIte, Bool.false_eq_true, Bool.not_true, Bool.not_false, Nat.reduceEqDiff, reduceCtorEq, Ty.cells_len, Ty.cells_take1, Ty.cells_drop1, Ty.cells_drop2, Ty.cells_take3]
      refine hK7 _ ?_
      try clear hK7 K7
      refine AWp_ret ?_
      simp only [thenQ, blockQ, retQ, aRes, tupOf, St.get, List.getD_cons_zero, List.getD_cons_succ]
      first | (rw [Ty.same_eq]; simp_all; done) | (rw [Ty.same_eq]; simp at hb45; rw [Ty.sameL_false hp hq hb45]; simp; done) | (rw [Ty.same_eq]; simp at hb26; rw [Ty.sameL_len (by omega)]; simp; done) | (rw [Ty.same_eq, Ty.sameL_true e3 (fun i p q h1 h2 => hs.2 i p q (by have := (List.getElem?_eq_some_iff.1 h1).1; omega) h1 h2)]; simp_all; done) | skip
    · simp only [List.set_cons_zero, List.set_cons_succ]
      simp only [↓aops, ↓aop, ↓aWant, ↓aVal, St.ev, St.get, St.put, St.new, List.getD_cons_zero, List.getD_cons_succ, List.set_cons_zero, List.set_cons_succ, AV.flat, AV.cl, AV.one, Value.oneCell', true_and, and_true, thenQ, blockQ, if_true, if_false, ↓reduceIte, Bool.false_eq_true, Bool.not_true, Bool.not_false, Nat.reduceEqDiff, reduceCtorEq, List.getElem?_cons_zero, List.getElem?_cons_succ, Option.bind_some, undef, aField, fo32_2, Nat.zero_add, Nat.reduceAdd, Nat.add_zero, List.drop_succ_cons, List.drop_zero, aLoad, ti22, getO, pack, List.length_cons, List.length_nil, Nat.reduceLeDiff, Nat.le_refl, List.take_succ_cons, List.take_zero, aLen, ln22, List.length_map, aBin, aBool, Ty.cells_len, Ty.cells_take1, Ty.cells_drop1, Ty.cells_drop2, Ty.cells_take3]
      refine hK3 _ ?_
      try clear hK3 K3
      refine AWp_cond (by rfl) (fun hb26 => ?_) (fun hb26 => ?_)
      · skip
        refine AWp_seqK fun K8 hK8 => ?_
        refine AWp_region ?_
        simp only [↓aops, ↓aop, ↓aWant, ↓aVal, St.ev, St.get, St.put, St.new, List.getD_cons_zero, List.getD_cons_succ, List.set_cons_zero, List.set_cons_succ, AV.flat, AV.cl, AV.one, Value.oneCell', true_and, and_true, thenQ, blockQ, if_true, if_false, ↓reduceIte, Bool.false_eq_true, Bool.not_true, Bool.not_false, Nat.reduceEqDiff, reduceCtorEq, Ty.cells_len, Ty.cells_take1, Ty.cells_drop1, Ty.cells_drop2, Ty.cells_take3]
        refine hK8 _ ?_
        try clear hK8 K8
        refine AWp_ret ?_
        simp only [thenQ, blockQ, retQ, aRes, tupOf, St.get, List.getD_cons_zero, List.getD_cons_succ]
        first | (rw [Ty.same_eq]; simp_all; done) | (rw [Ty.same_eq]; simp at hb45; rw [Ty.sameL_false hp hq hb45]; simp; done) | (rw [Ty.same_eq]; simp at hb26; rw [Ty.sameL_len (by omega)]; simp; done) | (rw [Ty.same_eq, Ty.sameL_true e3 (fun i p q h1 h2 => hs.2 i p q (by have := (List.getElem?_eq_some_iff.1 h1).1; omega) h1 h2)]; simp_all; done) | skip
      · skip
        have e3 : T1.ps.length = T2.ps.length   := by simp at hb26; omega
        refine AWp_skip ?_
        simp only [thenQ, blockQ]
        refine hK2 _ ?_
        try clear hK2 K2
        refine AWp_seqK fun K9 hK9 => ?_
        refine AWp_seqK fun K10 hK10 => ?_
        refine AWp_region ?_
        simp only [↓aops, ↓aop, ↓aWant, ↓aVal, St.ev, St.get, St.put, St.new, List.getD_cons_zero, List.getD_cons_succ, List.set_cons_zero, List.set_cons_succ, AV.flat, AV.cl, AV.one, Value.oneCell', true_and, and_true, thenQ, blockQ, if_true, if_false, ↓reduceIte, Bool.false_eq_true, Bool.not_true, Bool.not_false, Nat.reduceEqDiff, reduceCtorEq, Ty.cells_len, Ty.cells_take1, Ty.cells_drop1, Ty.cells_drop2, Ty.cells_take3]
        refine hK10 _ ?_
        try clear hK10 K10
        refine AWp_block ?_
        refine AWp_loopM (σ := Nat) [false, false, true, true, false, true, false, false, false, false, false, false, false, false, false, false, false, false, false, false, false, false, false, false, false, false, false, false, false, false, false, false, false, false, false, false, false, false, false, false, false, false, false, false, false, false] (fun s => s ≤ T1.ps.length ∧ ∀ (i : Nat) (p q : Ty), i < s → T1.ps[i]? = some p → T2.ps[i]? = some q → p.same q = true) (fun s => [(5, .v (.int .i64 (s : Int)))]) (fun s => []) (fun s => T1.ps.length - s) 0 (⟨by omega, fun i p q hi => by omega⟩) ?_ (fun s hs => ?_)
        · skip
          simp only [maskL, setsL, putsO, putO, List.set_cons_zero, List.set_cons_succ, Nat.reduceEqDiff, ↓reduceIte]
          exact Weak.mk (by simp only [LeL, Le.refl, Le.any, and_self, Int.natCast_add, Int.cast_ofNat_Int, Int.natCast_one]) (fun _ _ h => h) rfl rfl
        simp only [maskL, setsL, putsO, putO, List.set_cons_zero, List.set_cons_succ, Nat.reduceEqDiff, ↓reduceIte]
        refine AWp_seqK fun K11 hK11 => ?_
        refine AWp_seqK fun K12 hK12 => ?_
        refine AWp_region ?_
        simp only [↓aops, ↓aop, ↓aWant, ↓aVal, St.ev, St.get, St.put, St.new, List.getD_cons_zero, List.getD_cons_succ, List.set_cons_zero, List.set_cons_succ, AV.flat, AV.cl, AV.one, Value.oneCell', true_and, and_true, thenQ, blockQ, if_true, if_false, ↓reduceIte, Bool.false_eq_true, Bool.not_true, Bool.not_false, Nat.reduceEqDiff, reduceCtorEq, aField, fo32_2, Nat.zero_add, Nat.reduceAdd, Nat.add_zero, List.drop_succ_cons, List.drop_zero, aLoad, ti22, getO, pack, List.length_cons, List.length_nil, Nat.reduceLeDiff, Nat.le_refl, List.take_succ_cons, List.take_zero, aLen, ln22, List.length_map, aBin, Ty.cells_len, Ty.cells_take1, Ty.cells_drop1, Ty.cells_drop2, Ty.cells_take3]
        refine hK12 _ ?_
        try clear hK12 K12
        refine AWp_cond (by rfl) (fun hb31 => ?_) (fun hb31 => ?_)
        · skip
          have hk : s < T1.ps.length := by simpa using hb31
          have hk2 : s < T2.ps.length := by omega
          obtain ⟨p, hp⟩ : ∃ p, T1.ps[s]? = some p := ⟨_, List.getElem?_eq_getElem hk⟩
          obtain ⟨q, hq⟩ : ∃ q, T2.ps[s]? = some q := ⟨_, List.getElem?_eq_getElem hk2⟩
          have hw : IntKind.i64.wrap ((s : Int) + 1) = (s : Int) + 1 := wrap_in (by omega) (by have := hm1.len; simp only [maxLen] at this; omega)
          refine AWp_skip ?_
          simp only [thenQ, blockQ]
          refine hK11 _ ?_
          try clear hK11 K11
          refine AWp_seqK fun K13 hK13 => ?_
          refine AWp_block ?_
          refine AWp_seqK fun K14 hK14 => ?_
          refine AWp_drawK 12 mixed (by kernel_rfl) fun K15 hK15 => ?_
          simp only [List.take_succ_cons, List.take_zero]
          refine dRun_chunk 10 fun C16 hC16 => ?_
          simp only [List.take_succ_cons, List.take_zero, ↓dRun, ↓dOp, exists_eq_left, ↓aops, ↓aop, ↓aWant, ↓aVal, St.ev, St.get, St.put, St.new, List.getD_cons_zero, List.getD_cons_succ, List.set_cons_zero, List.set_cons_succ, AV.flat, AV.cl, AV.one, Value.oneCell', true_and, and_true, thenQ, blockQ, if_true, if_false, ↓reduceIte, Bool.false_eq_true, Bool.not_true, Bool.not_false, Nat.reduceEqDiff, reduceCtorEq, aField, fo32_2, Nat.zero_add, Nat.reduceAdd, Nat.add_zero, List.drop_succ_cons, List.drop_zero, aLoad, ti22, getO, pack, List.length_cons, List.length_nil, Nat.reduceLeDiff, Nat.le_refl, aIndexA, es22, Int.natCast_nonneg, Int.ofNat_lt, Int.toNat_natCast, List.length_map, ti32, exists_eq_left', Ty.cells_len, Ty.cells_take1, Ty.cells_drop1, Ty.cells_drop2, Ty.cells_take3, hk, hk2, getD_map_cells hp, getD_map_cells hq, Int.natCast_add, Int.natCast_one, hw]
          refine hC16 _ ?_
          try clear hC16 C16
          simp only [List.drop_succ_cons, List.drop_zero]
          refine dRun_chunk 1 fun C17 hC17 => ?_
          simp only [List.take_succ_cons, List.take_zero, ↓dRun, ↓dOp, exists_eq_left, ↓aops, ↓aop, ↓aWant, ↓aVal, St.ev, St.get, St.put, St.new, List.getD_cons_zero, List.getD_cons_succ, List.set_cons_zero, List.set_cons_succ, AV.flat, AV.cl, AV.one, Value.oneCell', true_and, and_true, thenQ, blockQ, if_true, if_false, ↓reduceIte, Bool.false_eq_true, Bool.not_true, Bool.not_false, Nat.reduceEqDiff, reduceCtorEq, aCallV, Array.toList_map, List.map_cons, List.map_nil, List.append_nil, List.cons_append, List.nil_append, Ty.cells_len, Ty.cells_take1, Ty.cells_drop1, Ty.cells_drop2, Ty.cells_take3, hk, hk2, getD_map_cells hp, getD_map_cells hq, Int.natCast_add, Int.natCast_one, hw]
          refine ⟨_, ih p (List.mem_of_getElem? hp) q, ?_⟩
          try simp only [St.put, List.set_cons_zero, List.set_cons_succ, thenQ, blockQ]
          refine hC17 _ ?_
          try clear hC17 C17
          simp only [List.drop_succ_cons, List.drop_zero]
          simp only [↓dRun, ↓dOp, exists_eq_left, ↓aops, ↓aop, ↓aWant, ↓aVal, St.ev, St.get, St.put, St.new, List.getD_cons_zero, List.getD_cons_succ, List.set_cons_zero, List.set_cons_succ, AV.flat, AV.cl, AV.one, Value.oneCell', true_and, and_true, thenQ, blockQ, if_true, if_false, ↓reduceIte, Bool.false_eq_true, Bool.not_true, Bool.not_false, Nat.reduceEqDiff, reduceCtorEq, aUn, exists_eq_left', Ty.cells_len, Ty.cells_take1, Ty.cells_drop1, Ty.cells_drop2, Ty.cells_take3, hk, hk2, getD_map_cells hp, getD_map_cells hq, Int.natCast_add, Int.natCast_one, hw]
          refine hK15 _ ?_
          try clear hK15 K15
          simp only [List.drop_succ_cons, List.drop_zero, aops, thenQ, blockQ]
          refine hK14 _ ?_
          try clear hK14 K14
          refine AWp_cond (by rfl) (fun hb45 => ?_) (fun hb45 => ?_)
          · skip
            refine AWp_seqK fun K18 hK18 => ?_
            refine AWp_region ?_
            simp only [↓aops, ↓aop, ↓aWant, ↓aVal, St.ev, St.get, St.put, St.new, List.getD_cons_zero, List.getD_cons_succ, List.set_cons_zero, List.set_cons_succ, AV.flat, AV.cl, AV.one, Value.oneCell', true_and, and_true, thenQ, blockQ, if_true, if_false, ↓reduceIte, Bool.false_eq_true, Bool.not_true, Bool.not_false, Nat.reduceEqDiff, reduceCtorEq, Ty.cells_len, Ty.cells_take1, Ty.cells_drop1, Ty.cells_drop2, Ty.cells_take3, hk, hk2, getD_map_cells hp, getD_map_cells hq, Int.natCast_add, Int.natCast_one, hw]
            refine hK18 _ ?_
            try clear hK18 K18
            refine AWp_ret ?_
            simp only [thenQ, blockQ, retQ, aRes, tupOf, St.get, List.getD_cons_zero, List.getD_cons_succ]
            first | (rw [Ty.same_eq]; simp_all; done) | (rw [Ty.same_eq]; simp at hb45; rw [Ty.sameL_false hp hq hb45]; simp; done) | (rw [Ty.same_eq]; simp at hb26; rw [Ty.sameL_len (by omega)]; simp; done) | (rw [Ty.same_eq, Ty.sameL_true e3 (fun i p q h1 h2 => hs.2 i p q (by have := (List.getElem?_eq_some_iff.1 h1).1; omega) h1 h2)]; simp_all; done) | skip
          · skip
            refine AWp_skip ?_
            simp only [thenQ, blockQ]
            refine hK13 _ ?_
            try clear hK13 K13
            refine AWp_region ?_
            simp only [↓aops, ↓aop, ↓aWant, ↓aVal, St.ev, St.get, St.put, St.new, List.getD_cons_zero, List.getD_cons_succ, List.set_cons_zero, List.set_cons_succ, AV.flat, AV.cl, AV.one, Value.oneCell', true_and, and_true, thenQ, blockQ, if_true, if_false, ↓reduceIte, Bool.false_eq_true, Bool.not_true, Bool.not_false, Nat.reduceEqDiff, reduceCtorEq, aBin, Ty.cells_len, Ty.cells_take1, Ty.cells_drop1, Ty.cells_drop2, Ty.cells_take3, hk, hk2, getD_map_cells hp, getD_map_cells hq, Int.natCast_add, Int.natCast_one, hw]
            refine ⟨(s + 1), ⟨by omega, fun i p' q' hi h1 h2 => (by rcases Nat.lt_or_ge i s with h3 | h3 <;> first | exact hs.2 i p' q' h3 h1 h2 | (obtain rfl : i = s := (by omega); rw [hp] at h1; rw [hq] at h2; cases h1; cases h2; simpa using hb45))⟩, by omega, ?_⟩
            simp only [maskL, setsL, putsO, putO, List.set_cons_zero, List.set_cons_succ, Nat.reduceEqDiff, ↓reduceIte, hk, hk2, getD_map_cells hp, getD_map_cells hq, Int.natCast_add, Int.natCast_one, hw]
            exact Weak.mk (by simp only [LeL, Le.refl, Le.any, and_self, Int.natCast_add, Int.cast_ofNat_Int, Int.natCast_one]) (fun _ _ h => h) rfl rfl
        · skip
          have hk : s = T1.ps.length := by have := hs.1; simp at hb31; omega
          refine AWp_exit ?_
          simp only [thenQ, blockQ, if_true, Nat.reduceEqDiff, ↓reduceIte, if_false]
          refine hK9 _ ?_
          try clear hK9 K9
          refine AWp_seqK fun K19 hK19 => ?_
          refine AWp_region ?_
          simp only [↓aops, ↓aop, ↓aWant, ↓aVal, St.ev, St.get, St.put, St.new, List.getD_cons_zero, List.getD_cons_succ, List.set_cons_zero, List.set_cons_succ, AV.flat, AV.cl, AV.one, Value.oneCell', true_and, and_true, thenQ, blockQ, if_true, if_false, ↓reduceIte, Bool.false_eq_true, Bool.not_true, Bool.not_false, Nat.reduceEqDiff, reduceCtorEq, Ty.cells_len, Ty.cells_take1, Ty.cells_drop1, Ty.cells_drop2, Ty.cells_take3]
          refine hK19 _ ?_
          try clear hK19 K19
          refine AWp_ret ?_
          simp only [thenQ, blockQ, retQ, aRes, tupOf, St.get, List.getD_cons_zero, List.getD_cons_succ]
          first | (rw [Ty.same_eq]; simp_all; done) | (rw [Ty.same_eq]; simp at hb45; rw [Ty.sameL_false hp hq hb45]; simp; done) | (rw [Ty.same_eq]; simp at hb26; rw [Ty.sameL_len (by omega)]; simp; done) | (rw [Ty.same_eq, Ty.sameL_true e3 (fun i p q h1 h2 => hs.2 i p q (by have := (List.getElem?_eq_some_iff.1 h1).1; omega) h1 h2)]; simp_all; done) | skip
end Go.Proofs.Ytohdoloalolpfaa
