import Derived.Test.YtohdoloalolpfaaGr7
namespace Go.Proofs.Ytohdoloalolpfaa
open Go Go.RowKit
set_option maxRecDepth 100000
set_option linter.unusedSimpArgs false
set_option linter.unusedVariables false
theorem bStep_G (b : BS) (t : Ty) : (bStep b t).G = (t.gAdd b.G).1 := by
  unfold bStep Ty.gAdd
  split <;> rfl
theorem bothF_more {ps qs : List Ty} {s : Nat} {q : Ty} (h : qs[s]? = some q) : bothF (ps ++ qs.take (s + 1)) = bStep (bothF (ps ++ qs.take s)) q := by
  rw [bothF, List.take_add_one, h, ← List.append_assoc, List.foldl_append]; rfl
theorem bStep_pre (b : BS) (ts : List Ty) (t : Ty) (h : BInv b ts) (hc : t.cnt ≤ 400) : Pre b.m (bStep b t).m := by
  unfold bStep
  split
  · rename_i hr; exact (rel_add t hr hc _ _ h.rel).pre
  · exact .refl _
theorem bothF_pre (ps qs : List Ty) (hc : ∀ t ∈ ps ++ qs, t.cnt ≤ 400) : ∀ s, s ≤ qs.length → Pre (bothF ps).m (bothF (ps ++ qs.take s)).m ∧ BInv (bothF (ps ++ qs.take s)) (ps ++ qs.take s)
  | 0, _ => by
    have := bothF_inv ps (fun t ht => hc t (by simp [ht])) ps.length (Nat.le_refl _)
    rw [List.take_length] at this
    simp only [List.take_zero, List.append_nil]
    exact ⟨.refl _, this⟩
  | s + 1, hs => by
    obtain ⟨h1, h2⟩ := bothF_pre ps qs hc s (by omega)
    have hq : qs[s]? = some (qs[s]'(by omega)) := List.getElem?_eq_getElem (by omega)
    have hcq := hc (qs[s]'(by omega)) (by simp)
    rw [bothF_more hq]
    refine ⟨h1.trans (bStep_pre _ _ _ h2 hcq), ?_⟩
    have := h2.step hcq
    rw [List.take_add_one, hq, ← List.append_assoc]
    exact this
theorem filter_at {ps : List Ty} {s : Nat} {p : Ty} (h : ps[s]? = some p) (hr : p.right = true) : (ps.filter Ty.right)[((ps.take s).filter Ty.right).length]? = some p := by
  have e : ps = ps.take s ++ p :: ps.drop (s + 1) := by
    have h1 := List.take_append_drop s ps
    have hlt := (List.getElem?_eq_some_iff.1 h).1
    have h2 : ps.drop s = p :: ps.drop (s + 1) := by
      rw [List.drop_eq_getElem_cons hlt, (List.getElem?_eq_some_iff.1 h).2]
    rw [← h2, h1]
  conv => lhs; rw [e]
  rw [List.filter_append, List.filter_cons, if_pos hr]
  have hlen : (((ps.take s ++ p :: ps.drop (s + 1)).take s).filter Ty.right).length = ((ps.take s).filter Ty.right).length := by rw [← e]
  rw [hlen, List.getElem?_append_right (Nat.le_refl _), Nat.sub_self]; rfl
theorem filter_take_yes {ps : List Ty} {s : Nat} {p : Ty} (h : ps[s]? = some p) (hr : p.right = true) : ((ps.take (s + 1)).filter Ty.right).length = ((ps.take s).filter Ty.right).length + 1 := by
  rw [List.take_add_one, h, List.filter_append]; simp [hr]
theorem filter_take_no {ps : List Ty} {s : Nat} {p : Ty} (h : ps[s]? = some p) (hr : p.right = false) : ((ps.take (s + 1)).filter Ty.right).length = ((ps.take s).filter Ty.right).length := by
  rw [List.take_add_one, h, List.filter_append]; simp [hr]
theorem GraphKeeps_pure (ps qs : List Ty) : APure Try.prog 4 [.sl 3 (ps.map Ty.cells), .sl 3 (qs.map Ty.cells)] (.v (.bool true)) := by
  refine APure.mkL (.cons (Ty.dataSl ps) (.cons (Ty.dataSl qs) .nil)) (.v _) ?_
  refine ACalls_intro Try.func4 (by kernel_rfl) rfl (by rw [Try.ntmps4]; simp) (fun hm => ?_)
  simp only [Try.ntmps4, Try.results4, List.length_cons, List.length_nil, Nat.reduceAdd, Nat.reduceSub, List.replicate_succ, List.replicate_zero, List.cons_append, List.nil_append]
  refine AWp_seqK fun K1 hK1 => ?_
  refine AWp_region ?_
  simp only [↓aops, ↓aop, ↓aWant, ↓aVal, St.ev, St.get, St.put, St.new, List.getD_cons_zero, List.getD_cons_succ, List.set_cons_zero, List.set_cons_succ, AV.flat, AV.cl, AV.one, Value.oneCell', true_and, and_true, thenQ, blockQ, if_true, if_false, ↓reduceIte, Bool.false_eq_true, Bool.not_true, Bool.not_false, Nat.reduceEqDiff, reduceCtorEq, Ty.cells_one, Ty.cells_len, Ty.cells_take1, Ty.cells_drop1, Ty.cells_drop2, Ty.cells_take3, List.length_map, intC]
  refine hK1 _ ?_
  try clear hK1 K1
  refine AWp_seqK fun K2 hK2 => ?_
  refine AWp_seqK fun K3 hK3 => ?_
  refine AWp_region ?_
  refine aops_chunk 1 fun C4 hC4 => ?_
  simp only [List.take_succ_cons, List.take_zero, ↓aops, ↓aop, ↓aWant, ↓aVal, St.ev, St.get, St.put, St.new, List.getD_cons_zero, List.getD_cons_succ, List.set_cons_zero, List.set_cons_succ, AV.flat, AV.cl, AV.one, Value.oneCell', true_and, and_true, thenQ, blockQ, if_true, if_false, ↓reduceIte, Bool.false_eq_true, Bool.not_true, Bool.not_false, Nat.reduceEqDiff, reduceCtorEq, Ty.cells_one, Ty.cells_len, Ty.cells_take1, Ty.cells_drop1, Ty.cells_drop2, Ty.cells_take3, List.length_map, intC]
  refine hC4 _ ?_
  try clear hC4 C4
  simp only [List.drop_succ_cons, List.drop_zero]
  refine aops_chunk 1 fun C5 hC5 => ?_
  simp only [List.take_succ_cons, List.take_zero, ↓aops, ↓aop, ↓aWant, ↓aVal, St.ev, St.get, St.put, St.new, List.getD_cons_zero, List.getD_cons_succ, List.set_cons_zero, List.set_cons_succ, AV.flat, AV.cl, AV.one, Value.oneCell', true_and, and_true, thenQ, blockQ, if_true, if_false, ↓reduceIte, Bool.false_eq_true, Bool.not_true, Bool.not_false, Nat.reduceEqDiff, reduceCtorEq, aCallV, Array.toList_map, List.map_cons, List.map_nil, List.append_nil, List.cons_append, List.nil_append, Ty.cells_one, Ty.cells_len, Ty.cells_take1, Ty.cells_drop1, Ty.cells_drop2, Ty.cells_take3, List.length_map, intC]
  refine APure.call (Great11_pure ps) ?_
  try simp only [St.put, List.set_cons_zero, List.set_cons_succ, thenQ, blockQ]
  refine hC5 _ ?_
  try clear hC5 C5
  simp only [List.drop_succ_cons, List.drop_zero]
  refine aops_chunk 1 fun C6 hC6 => ?_
  simp only [List.take_succ_cons, List.take_zero, ↓aops, ↓aop, ↓aWant, ↓aVal, St.ev, St.get, St.put, St.new, List.getD_cons_zero, List.getD_cons_succ, List.set_cons_zero, List.set_cons_succ, AV.flat, AV.cl, AV.one, Value.oneCell', true_and, and_true, thenQ, blockQ, if_true, if_false, ↓reduceIte, Bool.false_eq_true, Bool.not_true, Bool.not_false, Nat.reduceEqDiff, reduceCtorEq, Ty.cells_one, Ty.cells_len, Ty.cells_take1, Ty.cells_drop1, Ty.cells_drop2, Ty.cells_take3, List.length_map, intC]
  refine hC6 _ ?_
  try clear hC6 C6
  simp only [List.drop_succ_cons, List.drop_zero]
  refine aops_case 20 (by rfl) (fun hc20 => ?_) (fun hc20 => ?_)
  · simp only [List.set_cons_zero, List.set_cons_succ]
    refine aops_chunk 2 fun C7 hC7 => ?_
    simp only [List.take_succ_cons, List.take_zero, ↓aops, ↓aop, ↓aWant, ↓aVal, St.ev, St.get, St.put, St.new, List.getD_cons_zero, List.getD_cons_succ, List.set_cons_zero, List.set_cons_succ, AV.flat, AV.cl, AV.one, Value.oneCell', true_and, and_true, thenQ, blockQ, if_true, if_false, ↓reduceIte, Bool.false_eq_true, Bool.not_true, Bool.not_false, Nat.reduceEqDiff, reduceCtorEq, List.getElem?_cons_zero, List.getElem?_cons_succ, Option.bind_some, undef, aCallV, Array.toList_map, List.map_cons, List.map_nil, List.append_nil, List.cons_append, List.nil_append, Ty.cells_one, Ty.cells_len, Ty.cells_take1, Ty.cells_drop1, Ty.cells_drop2, Ty.cells_take3, List.length_map, intC]
    refine hC7 _ ?_
    try clear hC7 C7
    simp only [List.drop_succ_cons, List.drop_zero]
    simp only [↓aops, ↓aop, ↓aWant, ↓aVal, St.ev, St.get, St.put, St.new, List.getD_cons_zero, List.getD_cons_succ, List.set_cons_zero, List.set_cons_succ, AV.flat, AV.cl, AV.one, Value.oneCell', true_and, and_true, thenQ, blockQ, if_true, if_false, ↓reduceIte, Bool.false_eq_true, Bool.not_true, Bool.not_false, Nat.reduceEqDiff, reduceCtorEq, aBool, Ty.cells_one, Ty.cells_len, Ty.cells_take1, Ty.cells_drop1, Ty.cells_drop2, Ty.cells_take3, List.length_map, intC]
    refine hK3 _ ?_
    try clear hK3 K3
    refine AWp_cond (b := true) (by first | rfl | exact congrArg (fun b => AV.v (.bool b)) hb23) (fun _ => ?_) (fun h => (by cases h))
    refine AWp_seqK fun K8 hK8 => ?_
    refine AWp_region ?_
    refine aops_chunk 1 fun C9 hC9 => ?_
    simp only [List.take_succ_cons, List.take_zero, ↓aops, ↓aop, ↓aWant, ↓aVal, St.ev, St.get, St.put, St.new, List.getD_cons_zero, List.getD_cons_succ, List.set_cons_zero, List.set_cons_succ, AV.flat, AV.cl, AV.one, Value.oneCell', true_and, and_true, thenQ, blockQ, if_true, if_false, ↓reduceIte, Bool.false_eq_true, Bool.not_true, Bool.not_false, Nat.reduceEqDiff, reduceCtorEq, aCallV, Array.toList_map, List.map_cons, List.map_nil, List.append_nil, List.cons_append, List.nil_append, Ty.cells_one, Ty.cells_len, Ty.cells_take1, Ty.cells_drop1, Ty.cells_drop2, Ty.cells_take3, List.length_map, intC]
    refine APure.call (awake_pure) ?_
    try simp only [St.put, List.set_cons_zero, List.set_cons_succ, thenQ, blockQ]
    refine hC9 _ ?_
    try clear hC9 C9
    simp only [List.drop_succ_cons, List.drop_zero]
    simp only [↓aops, ↓aop, ↓aWant, ↓aVal, St.ev, St.get, St.put, St.new, List.getD_cons_zero, List.getD_cons_succ, List.set_cons_zero, List.set_cons_succ, AV.flat, AV.cl, AV.one, Value.oneCell', true_and, and_true, thenQ, blockQ, if_true, if_false, ↓reduceIte, Bool.false_eq_true, Bool.not_true, Bool.not_false, Nat.reduceEqDiff, reduceCtorEq, Ty.cells_one, Ty.cells_len, Ty.cells_take1, Ty.cells_drop1, Ty.cells_drop2, Ty.cells_take3, List.length_map, intC]
    refine hK8 _ ?_
    try clear hK8 K8
    refine AWp_ret ?_
    simp only [thenQ, blockQ, retQ, aRes, tupOf, St.get, List.getD_cons_zero, List.getD_cons_succ]
    exact Le.refl _
  · simp only [List.set_cons_zero, List.set_cons_succ]
    refine aops_chunk 1 fun C10 hC10 => ?_
    simp only [List.take_succ_cons, List.take_zero, ↓aops, ↓aop, ↓aWant, ↓aVal, St.ev, St.get, St.put, St.new, List.getD_cons_zero, List.getD_cons_succ, List.set_cons_zero, List.set_cons_succ, AV.flat, AV.cl, AV.one, Value.oneCell', true_and, and_true, thenQ, blockQ, if_true, if_false, ↓reduceIte, Bool.false_eq_true, Bool.not_true, Bool.not_false, Nat.reduceEqDiff, reduceCtorEq, List.getElem?_cons_zero, List.getElem?_cons_succ, Option.bind_some, undef, Ty.cells_one, Ty.cells_len, Ty.cells_take1, Ty.cells_drop1, Ty.cells_drop2, Ty.cells_take3, List.length_map, intC]
    refine hC10 _ ?_
    try clear hC10 C10
    simp only [List.drop_succ_cons, List.drop_zero]
    refine aops_chunk 1 fun C11 hC11 => ?_
    simp only [List.take_succ_cons, List.take_zero, ↓aops, ↓aop, ↓aWant, ↓aVal, St.ev, St.get, St.put, St.new, List.getD_cons_zero, List.getD_cons_succ, List.set_cons_zero, List.set_cons_succ, AV.flat, AV.cl, AV.one, Value.oneCell', true_and, and_true, thenQ, blockQ, if_true, if_false, ↓reduceIte, Bool.false_eq_true, Bool.not_true, Bool.not_false, Nat.reduceEqDiff, reduceCtorEq, List.getElem?_cons_zero, List.getElem?_cons_succ, Option.bind_some, undef, aCallV, Array.toList_map, List.map_cons, List.map_nil, List.append_nil, List.cons_append, List.nil_append, Ty.cells_one, Ty.cells_len, Ty.cells_take1, Ty.cells_drop1, Ty.cells_drop2, Ty.cells_take3, List.length_map, intC]
    refine APure.call (Great11_pure qs) ?_
    try simp only [St.put, List.set_cons_zero, List.set_cons_succ, thenQ, blockQ]
    refine hC11 _ ?_
    try clear hC11 C11
    simp only [List.drop_succ_cons, List.drop_zero]
    simp only [↓aops, ↓aop, ↓aWant, ↓aVal, St.ev, St.get, St.put, St.new, List.getD_cons_zero, List.getD_cons_succ, List.set_cons_zero, List.set_cons_succ, AV.flat, AV.cl, AV.one, Value.oneCell', true_and, and_true, thenQ, blockQ, if_true, if_false, ↓reduceIte, Bool.false_eq_true, Bool.not_true, Bool.not_false, Nat.reduceEqDiff, reduceCtorEq, aBool, Ty.cells_one, Ty.cells_len, Ty.cells_take1, Ty.cells_drop1, Ty.cells_drop2, Ty.cells_take3, List.length_map, intC]
    refine hK3 _ ?_
    try clear hK3 K3
    refine AWp_cond (by rfl) (fun hb23 => ?_) (fun hb23 => ?_)
    · skip
      refine AWp_seqK fun K12 hK12 => ?_
      refine AWp_region ?_
      refine aops_chunk 1 fun C13 hC13 => ?_
      simp only [List.take_succ_cons, List.take_zero, ↓aops, ↓aop, ↓aWant, ↓aVal, St.ev, St.get, St.put, St.new, List.getD_cons_zero, List.getD_cons_succ, List.set_cons_zero, List.set_cons_succ, AV.flat, AV.cl, AV.one, Value.oneCell', true_and, and_true, thenQ, blockQ, if_true, if_false, ↓reduceIte, Bool.false_eq_true, Bool.not_true, Bool.not_false, Nat.reduceEqDiff, reduceCtorEq, aCallV, Array.toList_map, List.map_cons, List.map_nil, List.append_nil, List.cons_append, List.nil_append, Ty.cells_one, Ty.cells_len, Ty.cells_take1, Ty.cells_drop1, Ty.cells_drop2, Ty.cells_take3, List.length_map, intC]
      refine APure.call (awake_pure) ?_
      try simp only [St.put, List.set_cons_zero, List.set_cons_succ, thenQ, blockQ]
      refine hC13 _ ?_
      try clear hC13 C13
      simp only [List.drop_succ_cons, List.drop_zero]
      simp only [↓aops, ↓aop, ↓aWant, ↓aVal, St.ev, St.get, St.put, St.new, List.getD_cons_zero, List.getD_cons_succ, List.set_cons_zero, List.set_cons_succ, AV.flat, AV.cl, AV.one, Value.oneCell', true_and, and_true, thenQ, blockQ, if_true, if_false, ↓reduceIte, Bool.false_eq_true, Bool.not_true, Bool.not_false, Nat.reduceEqDiff, reduceCtorEq, Ty.cells_one, Ty.cells_len, Ty.cells_take1, Ty.cells_drop1, Ty.cells_drop2, Ty.cells_take3, List.length_map, intC]
      refine hK12 _ ?_
      try clear hK12 K12
      refine AWp_ret ?_
      simp only [thenQ, blockQ, retQ, aRes, tupOf, St.get, List.getD_cons_zero, List.getD_cons_succ]
      exact Le.refl _
    · skip
      have hg : greatL ps = false := hc20
      have hgq : greatL qs = false := hb23
      obtain ⟨hg1, hg2, hg3⟩ := greatL_spec hg
      obtain ⟨hq1, hq2, hq3⟩ := greatL_spec hgq
      have hcs : ∀ t ∈ ps ++ qs, t.cnt ≤ 400 := fun t ht => by rcases List.mem_append.1 ht with ht | ht <;> first | (have := Ty.great_cnt (hg3 t ht); omega) | (have := Ty.great_cnt (hq3 t ht); omega)
      have hI := (bothF_pre ps qs hcs 0 (Nat.zero_le _)).2
      simp only [List.take_zero, List.append_nil] at hI
      have hPB := bothF_pre ps qs hcs qs.length (Nat.le_refl _)
      rw [List.take_length] at hPB
      obtain ⟨hP, hJ⟩ := hPB
      have hrl := hJ.rel
      have hln := hrl.len
      have hlc := hJ.len
      rw [Ty.cntL_append] at hlc
      have hwf := hrl.wf
      have hI1 := hI.len
      have hIl := hI.llen
      have hml := hI.rel.len
      have hPl := hP.len
      refine AWp_skip ?_
      simp only [thenQ, blockQ]
      refine hK2 _ ?_
      try clear hK2 K2
      refine AWp_seqK fun K14 hK14 => ?_
      refine AWp_region ?_
      refine aops_chunk 1 fun C15 hC15 => ?_
      simp only [List.take_succ_cons, List.take_zero, ↓aops, ↓aop, ↓aWant, ↓aVal, St.ev, St.get, St.put, St.new, List.getD_cons_zero, List.getD_cons_succ, List.set_cons_zero, List.set_cons_succ, AV.flat, AV.cl, AV.one, Value.oneCell', true_and, and_true, thenQ, blockQ, if_true, if_false, ↓reduceIte, Bool.false_eq_true, Bool.not_true, Bool.not_false, Nat.reduceEqDiff, reduceCtorEq, Ty.cells_one, Ty.cells_len, Ty.cells_take1, Ty.cells_drop1, Ty.cells_drop2, Ty.cells_take3, List.length_map, intC]
      refine hC15 _ ?_
      try clear hC15 C15
      simp only [List.drop_succ_cons, List.drop_zero]
      refine aops_chunk 1 fun C16 hC16 => ?_
      simp only [List.take_succ_cons, List.take_zero, ↓aops, ↓aop, ↓aWant, ↓aVal, St.ev, St.get, St.put, St.new, List.getD_cons_zero, List.getD_cons_succ, List.set_cons_zero, List.set_cons_succ, AV.flat, AV.cl, AV.one, Value.oneCell', true_and, and_true, thenQ, blockQ, if_true, if_false, ↓reduceIte, Bool.false_eq_true, Bool.not_true, Bool.not_false, Nat.reduceEqDiff, reduceCtorEq, aCallV, Array.toList_map, List.map_cons, List.map_nil, List.append_nil, List.cons_append, List.nil_append, Ty.cells_one, Ty.cells_len, Ty.cells_take1, Ty.cells_drop1, Ty.cells_drop2, Ty.cells_take3, List.length_map, intC]
      refine (both_calls ps hg).mono ?_
      rintro r os' nx' ⟨⟨rfl, rfl⟩, rfl⟩
      simp only [gO]
      try simp only [St.put, List.set_cons_zero, List.set_cons_succ, thenQ, blockQ]
      refine hC16 _ ?_
      try clear hC16 C16
      simp only [List.drop_succ_cons, List.drop_zero]
      refine aops_chunk 2 fun C17 hC17 => ?_
      simp only [List.take_succ_cons, List.take_zero, ↓aops, ↓aop, ↓aWant, ↓aVal, St.ev, St.get, St.put, St.new, List.getD_cons_zero, List.getD_cons_succ, List.set_cons_zero, List.set_cons_succ, AV.flat, AV.cl, AV.one, Value.oneCell', true_and, and_true, thenQ, blockQ, if_true, if_false, ↓reduceIte, Bool.false_eq_true, Bool.not_true, Bool.not_false, Nat.reduceEqDiff, reduceCtorEq, aExtract, List.length_cons, List.length_nil, Nat.reduceAdd, Nat.reduceLT, Nat.zero_lt_succ, Ty.cells_one, Ty.cells_len, Ty.cells_take1, Ty.cells_drop1, Ty.cells_drop2, Ty.cells_take3, List.length_map, intC]
      refine hC17 _ ?_
      try clear hC17 C17
      simp only [List.drop_succ_cons, List.drop_zero]
      refine aops_chunk 2 fun C18 hC18 => ?_
      simp only [List.take_succ_cons, List.take_zero, ↓aops, ↓aop, ↓aWant, ↓aVal, St.ev, St.get, St.put, St.new, List.getD_cons_zero, List.getD_cons_succ, List.set_cons_zero, List.set_cons_succ, AV.flat, AV.cl, AV.one, Value.oneCell', true_and, and_true, thenQ, blockQ, if_true, if_false, ↓reduceIte, Bool.false_eq_true, Bool.not_true, Bool.not_false, Nat.reduceEqDiff, reduceCtorEq, aExtract, List.length_cons, List.length_nil, Nat.reduceAdd, Nat.reduceLT, Nat.zero_lt_succ, Ty.cells_one, Ty.cells_len, Ty.cells_take1, Ty.cells_drop1, Ty.cells_drop2, Ty.cells_take3, List.length_map, intC]
      refine hC18 _ ?_
      try clear hC18 C18
      simp only [List.drop_succ_cons, List.drop_zero]
      refine aops_chunk 2 fun C19 hC19 => ?_
      simp only [List.take_succ_cons, List.take_zero, ↓aops, ↓aop, ↓aWant, ↓aVal, St.ev, St.get, St.put, St.new, List.getD_cons_zero, List.getD_cons_succ, List.set_cons_zero, List.set_cons_succ, AV.flat, AV.cl, AV.one, Value.oneCell', true_and, and_true, thenQ, blockQ, if_true, if_false, ↓reduceIte, Bool.false_eq_true, Bool.not_true, Bool.not_false, Nat.reduceEqDiff, reduceCtorEq, aExtract, List.length_cons, List.length_nil, Nat.reduceAdd, Nat.reduceLT, Nat.zero_lt_succ, Ty.cells_one, Ty.cells_len, Ty.cells_take1, Ty.cells_drop1, Ty.cells_drop2, Ty.cells_take3, List.length_map, intC]
      refine hC19 _ ?_
      try clear hC19 C19
      simp only [List.drop_succ_cons, List.drop_zero]
      refine aops_chunk 2 fun C20 hC20 => ?_
      simp only [List.take_succ_cons, List.take_zero, ↓aops, ↓aop, ↓aWant, ↓aVal, St.ev, St.get, St.put, St.new, List.getD_cons_zero, List.getD_cons_succ, List.set_cons_zero, List.set_cons_succ, AV.flat, AV.cl, AV.one, Value.oneCell', true_and, and_true, thenQ, blockQ, if_true, if_false, ↓reduceIte, Bool.false_eq_true, Bool.not_true, Bool.not_false, Nat.reduceEqDiff, reduceCtorEq, Ty.cells_one, Ty.cells_len, Ty.cells_take1, Ty.cells_drop1, Ty.cells_drop2, Ty.cells_take3, List.length_map, intC]
      refine hC20 _ ?_
      try clear hC20 C20
      simp only [List.drop_succ_cons, List.drop_zero]
      simp only [↓aops, ↓aop, ↓aWant, ↓aVal, St.ev, St.get, St.put, St.new, List.getD_cons_zero, List.getD_cons_succ, List.set_cons_zero, List.set_cons_succ, AV.flat, AV.cl, AV.one, Value.oneCell', true_and, and_true, thenQ, blockQ, if_true, if_false, ↓reduceIte, Bool.false_eq_true, Bool.not_true, Bool.not_false, Nat.reduceEqDiff, reduceCtorEq, Ty.cells_one, Ty.cells_len, Ty.cells_take1, Ty.cells_drop1, Ty.cells_drop2, Ty.cells_take3, List.length_map, intC]
      refine hK14 _ ?_
      try clear hK14 K14
      refine AWp_seqK fun K21 hK21 => ?_
      refine AWp_seqK fun K22 hK22 => ?_
      refine AWp_region ?_
      simp only [↓aops, ↓aop, ↓aWant, ↓aVal, St.ev, St.get, St.put, St.new, List.getD_cons_zero, List.getD_cons_succ, List.set_cons_zero, List.set_cons_succ, AV.flat, AV.cl, AV.one, Value.oneCell', true_and, and_true, thenQ, blockQ, if_true, if_false, ↓reduceIte, Bool.false_eq_true, Bool.not_true, Bool.not_false, Nat.reduceEqDiff, reduceCtorEq, aUn, Ty.cells_one, Ty.cells_len, Ty.cells_take1, Ty.cells_drop1, Ty.cells_drop2, Ty.cells_take3, List.length_map, intC]
      refine hK22 _ ?_
      try clear hK22 K22
      refine AWp_cond (by rfl) (fun hb33 => ?_) (fun hb33 => ?_)
      · skip
        exact absurd hb33 (by simp)
      · skip
        refine AWp_skip ?_
        simp only [thenQ, blockQ]
        refine hK21 _ ?_
        try clear hK21 K21
        refine AWp_seqK fun K23 hK23 => ?_
        refine AWp_region ?_
        refine aops_chunk 1 fun C24 hC24 => ?_
        simp only [List.take_succ_cons, List.take_zero, ↓aops, ↓aop, ↓aWant, ↓aVal, St.ev, St.get, St.put, St.new, List.getD_cons_zero, List.getD_cons_succ, List.set_cons_zero, List.set_cons_succ, AV.flat, AV.cl, AV.one, Value.oneCell', true_and, and_true, thenQ, blockQ, if_true, if_false, ↓reduceIte, Bool.false_eq_true, Bool.not_true, Bool.not_false, Nat.reduceEqDiff, reduceCtorEq, Ty.cells_one, Ty.cells_len, Ty.cells_take1, Ty.cells_drop1, Ty.cells_drop2, Ty.cells_take3, List.length_map, intC]
        refine hC24 _ ?_
        try clear hC24 C24
        simp only [List.drop_succ_cons, List.drop_zero]
        refine aops_chunk 1 fun C25 hC25 => ?_
        simp only [List.take_succ_cons, List.take_zero, ↓aops, ↓aop, ↓aWant, ↓aVal, St.ev, St.get, St.put, St.new, List.getD_cons_zero, List.getD_cons_succ, List.set_cons_zero, List.set_cons_succ, AV.flat, AV.cl, AV.one, Value.oneCell', true_and, and_true, thenQ, blockQ, if_true, if_false, ↓reduceIte, Bool.false_eq_true, Bool.not_true, Bool.not_false, Nat.reduceEqDiff, reduceCtorEq, aCallV, Array.toList_map, List.map_cons, List.map_nil, List.append_nil, List.cons_append, List.nil_append, Ty.cells_one, Ty.cells_len, Ty.cells_take1, Ty.cells_drop1, Ty.cells_drop2, Ty.cells_take3, List.length_map, intC]
        refine GCalls.at (Len_calls (bothF ps).G) (.nil) (.v _) (i := 1) (j := 2) (k := 0) rfl rfl rfl (by decide) (by decide) (by decide) (by first | omega | (simp only; omega)) (by first | omega | (simp only; omega)) (by first | omega | (simp only; omega)) ?_
        simp only [putO, Nat.reduceEqDiff, ↓reduceIte]
        try simp only [St.put, List.set_cons_zero, List.set_cons_succ, thenQ, blockQ]
        refine hC25 _ ?_
        try clear hC25 C25
        simp only [List.drop_succ_cons, List.drop_zero]
        simp only [↓aops, ↓aop, ↓aWant, ↓aVal, St.ev, St.get, St.put, St.new, List.getD_cons_zero, List.getD_cons_succ, List.set_cons_zero, List.set_cons_succ, AV.flat, AV.cl, AV.one, Value.oneCell', true_and, and_true, thenQ, blockQ, if_true, if_false, ↓reduceIte, Bool.false_eq_true, Bool.not_true, Bool.not_false, Nat.reduceEqDiff, reduceCtorEq, Ty.cells_one, Ty.cells_len, Ty.cells_take1, Ty.cells_drop1, Ty.cells_drop2, Ty.cells_take3, List.length_map, intC]
        refine hK23 _ ?_
        try clear hK23 K23
        refine AWp_seqK fun K26 hK26 => ?_
        refine AWp_seqK fun K27 hK27 => ?_
        refine AWp_region ?_
        simp only [↓aops, ↓aop, ↓aWant, ↓aVal, St.ev, St.get, St.put, St.new, List.getD_cons_zero, List.getD_cons_succ, List.set_cons_zero, List.set_cons_succ, AV.flat, AV.cl, AV.one, Value.oneCell', true_and, and_true, thenQ, blockQ, if_true, if_false, ↓reduceIte, Bool.false_eq_true, Bool.not_true, Bool.not_false, Nat.reduceEqDiff, reduceCtorEq, Ty.cells_one, Ty.cells_len, Ty.cells_take1, Ty.cells_drop1, Ty.cells_drop2, Ty.cells_take3, List.length_map, intC]
        refine hK27 _ ?_
        try clear hK27 K27
        refine AWp_block ?_
        refine AWp_loopM (σ := Nat) [true, true, false, false, false, true, false, true, false, true, true, false, false, false, false, false, false, false, false, false, false, false, false, false, false, false, false, false, false, false, false, false, false, false, false, false, false, false, false, false, false, false, false, false, false, false, false, false, false, false, false, false, false, false, false, false, false, false, false, false, false, false, false, false, false, false, false, false, false, false, false, false, false, false, false, false, false, false, false, false, false, false, false, false, false, false, false, false, false, false, false, false, false, false, false, false, false, false, false, false, false, false, false, false, false, false, false, false, false, false, false, false, false, false, false, false, false] (fun s => s ≤ qs.length) (fun s => [(10, .v (.int .i64 (s : Int)))]) (fun s => [(0, .map ((bothF (ps ++ qs.take s)).G.V.map vC)), (1, .cells 91 [.osl 2 4 ((bothF (ps ++ qs.take s)).G.N.map GNode.cells), .map 0]), (2, .tok 87 4 (bothF (ps ++ qs.take s)).G.N.length)]) (fun s => qs.length - s) 0 (by omega) ?_ (fun s hs => ?_)
        · skip
          simp only [maskL, setsL, putsO, putO, List.set_cons_zero, List.set_cons_succ, Nat.reduceEqDiff, ↓reduceIte, List.take_zero, List.append_nil]
          exact Weak.mk (by simp only [LeL, Le.refl, Le.any, Le.slNil, and_self, Int.natCast_add, Int.cast_ofNat_Int, Int.natCast_one]) (fun _ _ h => h) rfl rfl
        simp only [maskL, setsL, putsO, putO, List.set_cons_zero, List.set_cons_succ, Nat.reduceEqDiff, ↓reduceIte]
        refine AWp_seqK fun K28 hK28 => ?_
        refine AWp_seqK fun K29 hK29 => ?_
        refine AWp_region ?_
        refine aops_chunk 2 fun C30 hC30 => ?_
        simp only [List.take_succ_cons, List.take_zero, ↓aops, ↓aop, ↓aWant, ↓aVal, St.ev, St.get, St.put, St.new, List.getD_cons_zero, List.getD_cons_succ, List.set_cons_zero, List.set_cons_succ, AV.flat, AV.cl, AV.one, Value.oneCell', true_and, and_true, thenQ, blockQ, if_true, if_false, ↓reduceIte, Bool.false_eq_true, Bool.not_true, Bool.not_false, Nat.reduceEqDiff, reduceCtorEq, Ty.cells_one, Ty.cells_len, Ty.cells_take1, Ty.cells_drop1, Ty.cells_drop2, Ty.cells_take3, List.length_map, intC]
        refine hC30 _ ?_
        try clear hC30 C30
        simp only [List.drop_succ_cons, List.drop_zero]
        simp only [↓aops, ↓aop, ↓aWant, ↓aVal, St.ev, St.get, St.put, St.new, List.getD_cons_zero, List.getD_cons_succ, List.set_cons_zero, List.set_cons_succ, AV.flat, AV.cl, AV.one, Value.oneCell', true_and, and_true, thenQ, blockQ, if_true, if_false, ↓reduceIte, Bool.false_eq_true, Bool.not_true, Bool.not_false, Nat.reduceEqDiff, reduceCtorEq, aLen, ln22, List.length_map, aBin, Ty.cells_one, Ty.cells_len, Ty.cells_take1, Ty.cells_drop1, Ty.cells_drop2, Ty.cells_take3, intC]
        refine hK29 _ ?_
        try clear hK29 K29
        refine AWp_cond (by rfl) (fun hb39 => ?_) (fun hb39 => ?_)
        · skip
          have hk : s < qs.length := by simpa using hb39
          obtain ⟨q, hq⟩ : ∃ q, qs[s]? = some q := ⟨_, List.getElem?_eq_getElem hk⟩
          have hb := (bothF_pre ps qs hcs s (by omega)).2
          have hbl := hb.len
          rw [Ty.cntL_append] at hbl
          have hcq := Ty.cntL_step hq
          have hst : (q.gAdd (bothF (ps ++ qs.take s)).G).1 = (bothF (ps ++ qs.take (s + 1))).G := by rw [bothF_more hq, bStep_G]
          have hw : IntKind.i64.wrap ((s : Int) + 1) = (s : Int) + 1 := wrap_in (by omega) (by omega)
          refine AWp_skip ?_
          simp only [thenQ, blockQ]
          refine hK28 _ ?_
          try clear hK28 K28
          refine AWp_seqK fun K31 hK31 => ?_
          refine AWp_block ?_
          refine AWp_region ?_
          refine aops_chunk 2 fun C32 hC32 => ?_
          simp only [List.take_succ_cons, List.take_zero, ↓aops, ↓aop, ↓aWant, ↓aVal, St.ev, St.get, St.put, St.new, List.getD_cons_zero, List.getD_cons_succ, List.set_cons_zero, List.set_cons_succ, AV.flat, AV.cl, AV.one, Value.oneCell', true_and, and_true, thenQ, blockQ, if_true, if_false, ↓reduceIte, Bool.false_eq_true, Bool.not_true, Bool.not_false, Nat.reduceEqDiff, reduceCtorEq, Ty.cells_one, Ty.cells_len, Ty.cells_take1, Ty.cells_drop1, Ty.cells_drop2, Ty.cells_take3, List.length_map, intC, hk, getD_map_cells hq, hst, Int.natCast_add, Int.natCast_one, hw]
          refine hC32 _ ?_
          try clear hC32 C32
          simp only [List.drop_succ_cons, List.drop_zero]
          refine aops_chunk 2 fun C33 hC33 => ?_
          simp only [List.take_succ_cons, List.take_zero, ↓aops, ↓aop, ↓aWant, ↓aVal, St.ev, St.get, St.put, St.new, List.getD_cons_zero, List.getD_cons_succ, List.set_cons_zero, List.set_cons_succ, AV.flat, AV.cl, AV.one, Value.oneCell', true_and, and_true, thenQ, blockQ, if_true, if_false, ↓reduceIte, Bool.false_eq_true, Bool.not_true, Bool.not_false, Nat.reduceEqDiff, reduceCtorEq, aIndexA, es22, Int.natCast_nonneg, Int.ofNat_lt, Int.toNat_natCast, List.length_map, Int.le_refl, Int.toNat_zero, Int.toNat_one, Int.reduceLE, Ty.cells_one, Ty.cells_len, Ty.cells_take1, Ty.cells_drop1, Ty.cells_drop2, Ty.cells_take3, intC, hk, getD_map_cells hq, hst, Int.natCast_add, Int.natCast_one, hw]
          refine hC33 _ ?_
          try clear hC33 C33
          simp only [List.drop_succ_cons, List.drop_zero]
          refine aops_chunk 1 fun C34 hC34 => ?_
          simp only [List.take_succ_cons, List.take_zero, ↓aops, ↓aop, ↓aWant, ↓aVal, St.ev, St.get, St.put, St.new, List.getD_cons_zero, List.getD_cons_succ, List.set_cons_zero, List.set_cons_succ, AV.flat, AV.cl, AV.one, Value.oneCell', true_and, and_true, thenQ, blockQ, if_true, if_false, ↓reduceIte, Bool.false_eq_true, Bool.not_true, Bool.not_false, Nat.reduceEqDiff, reduceCtorEq, aLoad, ti32, getO, pack, List.length_cons, List.length_nil, Nat.reduceAdd, Nat.reduceLeDiff, Nat.zero_add, Nat.le_refl, List.drop_succ_cons, List.drop_zero, Ty.cells_one, Ty.cells_len, Ty.cells_take1, Ty.cells_drop1, Ty.cells_drop2, Ty.cells_take3, List.length_map, intC, hk, getD_map_cells hq, hst, Int.natCast_add, Int.natCast_one, hw]
          refine hC34 _ ?_
          try clear hC34 C34
          simp only [List.drop_succ_cons, List.drop_zero]
          simp only [↓aops, ↓aop, ↓aWant, ↓aVal, St.ev, St.get, St.put, St.new, List.getD_cons_zero, List.getD_cons_succ, List.set_cons_zero, List.set_cons_succ, AV.flat, AV.cl, AV.one, Value.oneCell', true_and, and_true, thenQ, blockQ, if_true, if_false, ↓reduceIte, Bool.false_eq_true, Bool.not_true, Bool.not_false, Nat.reduceEqDiff, reduceCtorEq, aCallV, Array.toList_map, List.map_cons, List.map_nil, List.append_nil, List.cons_append, List.nil_append, Ty.cells_one, Ty.cells_len, Ty.cells_take1, Ty.cells_drop1, Ty.cells_drop2, Ty.cells_take3, List.length_map, intC, hk, getD_map_cells hq, hst, Int.natCast_add, Int.natCast_one, hw]
          refine GCalls.at (Add_calls q (bothF (ps ++ qs.take s)).G hb.inv (by omega)) (.cons (Ty.dataAgg q) .nil) (.tup (.cons (.v _) (.cons (.v _) .nil))) (i := 1) (j := 2) (k := 0) rfl rfl rfl (by decide) (by decide) (by decide) (by first | omega | (simp only; omega)) (by first | omega | (simp only; omega)) (by first | omega | (simp only; omega)) ?_
          simp only [putO, Nat.reduceEqDiff, ↓reduceIte]
          try simp only [St.put, List.set_cons_zero, List.set_cons_succ, thenQ, blockQ]
          refine hK31 _ ?_
          try clear hK31 K31
          refine AWp_region ?_
          refine aops_chunk 2 fun C35 hC35 => ?_
          simp only [List.take_succ_cons, List.take_zero, ↓aops, ↓aop, ↓aWant, ↓aVal, St.ev, St.get, St.put, St.new, List.getD_cons_zero, List.getD_cons_succ, List.set_cons_zero, List.set_cons_succ, AV.flat, AV.cl, AV.one, Value.oneCell', true_and, and_true, thenQ, blockQ, if_true, if_false, ↓reduceIte, Bool.false_eq_true, Bool.not_true, Bool.not_false, Nat.reduceEqDiff, reduceCtorEq, aBin, Ty.cells_one, Ty.cells_len, Ty.cells_take1, Ty.cells_drop1, Ty.cells_drop2, Ty.cells_take3, List.length_map, intC, hk, getD_map_cells hq, hst, Int.natCast_add, Int.natCast_one, hw]
          refine hC35 _ ?_
          try clear hC35 C35
          simp only [List.drop_succ_cons, List.drop_zero]
          simp only [↓aops, ↓aop, ↓aWant, ↓aVal, St.ev, St.get, St.put, St.new, List.getD_cons_zero, List.getD_cons_succ, List.set_cons_zero, List.set_cons_succ, AV.flat, AV.cl, AV.one, Value.oneCell', true_and, and_true, thenQ, blockQ, if_true, if_false, ↓reduceIte, Bool.false_eq_true, Bool.not_true, Bool.not_false, Nat.reduceEqDiff, reduceCtorEq, Ty.cells_one, Ty.cells_len, Ty.cells_take1, Ty.cells_drop1, Ty.cells_drop2, Ty.cells_take3, List.length_map, intC, hk, getD_map_cells hq, hst, Int.natCast_add, Int.natCast_one, hw]
          refine ⟨(s + 1), (by omega), by omega, ?_⟩
          simp only [maskL, setsL, putsO, putO, List.set_cons_zero, List.set_cons_succ, Nat.reduceEqDiff, ↓reduceIte, hk, getD_map_cells hq, hst, Int.natCast_add, Int.natCast_one, hw]
          exact Weak.mk (by simp only [LeL, Le.refl, Le.any, Le.slNil, and_self, Int.natCast_add, Int.cast_ofNat_Int, Int.natCast_one]) (fun _ _ h => h) rfl rfl
        · skip
          have hk : s = qs.length := by simp at hb39; omega
          subst hk
          rw [List.take_length]
          refine AWp_exit ?_
          simp only [thenQ, blockQ, if_true, Nat.reduceEqDiff, ↓reduceIte, if_false]
          refine hK26 _ ?_
          try clear hK26 K26
          refine AWp_seqK fun K36 hK36 => ?_
          refine AWp_region ?_
          simp only [↓aops, ↓aop, ↓aWant, ↓aVal, St.ev, St.get, St.put, St.new, List.getD_cons_zero, List.getD_cons_succ, List.set_cons_zero, List.set_cons_succ, AV.flat, AV.cl, AV.one, Value.oneCell', true_and, and_true, thenQ, blockQ, if_true, if_false, ↓reduceIte, Bool.false_eq_true, Bool.not_true, Bool.not_false, Nat.reduceEqDiff, reduceCtorEq, Ty.cells_one, Ty.cells_len, Ty.cells_take1, Ty.cells_drop1, Ty.cells_drop2, Ty.cells_take3, List.length_map, intC]
          refine hK36 _ ?_
          try clear hK36 K36
          refine AWp_seqK fun K37 hK37 => ?_
          refine AWp_seqK fun K38 hK38 => ?_
          refine AWp_region ?_
          simp only [↓aops, ↓aop, ↓aWant, ↓aVal, St.ev, St.get, St.put, St.new, List.getD_cons_zero, List.getD_cons_succ, List.set_cons_zero, List.set_cons_succ, AV.flat, AV.cl, AV.one, Value.oneCell', true_and, and_true, thenQ, blockQ, if_true, if_false, ↓reduceIte, Bool.false_eq_true, Bool.not_true, Bool.not_false, Nat.reduceEqDiff, reduceCtorEq, Ty.cells_one, Ty.cells_len, Ty.cells_take1, Ty.cells_drop1, Ty.cells_drop2, Ty.cells_take3, List.length_map, intC]
          refine hK38 _ ?_
          try clear hK38 K38
          refine AWp_block ?_
          refine AWp_loopM (σ := Nat) [true, false, false, false, false, true, false, true, false, true, false, true, true, false, false, false, false, false, false, false, false, false, false, false, false, false, false, false, false, false, false, false, false, false, false, false, false, false, false, false, false, false, false, false, false, false, false, false, false, false, false, false, false, false, false, false, false, false, false, false, false, false, false, false, false, false, false, false, false, false, false, false, false, false, false, false, false, false, false, false, false, false, false, false, false, false, false, false, false, false, false, false, false, false, false, false, false, false, false, false, false, false, false, false, false, false, false, false, false, false, false, false, false, false, false, false, false] (fun s => s ≤ ps.length) (fun s => [(11, .v (.int .i64 (((ps.take s).filter Ty.right).length : Nat))), (12, .v (.int .i64 (s : Int)))]) (fun s => []) (fun s => ps.length - s) 0 (by omega) ?_ (fun s hs => ?_)
          · skip
            simp only [maskL, setsL, putsO, putO, List.set_cons_zero, List.set_cons_succ, Nat.reduceEqDiff, ↓reduceIte, List.take_zero, List.filter_nil, List.length_nil, Int.natCast_zero, Int.ofNat_zero, Int.cast_ofNat_Int]
            exact Weak.mk (by simp only [LeL, Le.refl, Le.any, Le.slNil, and_self, Int.natCast_add, Int.cast_ofNat_Int, Int.natCast_one]) (fun _ _ h => h) rfl rfl
          simp only [maskL, setsL, putsO, putO, List.set_cons_zero, List.set_cons_succ, Nat.reduceEqDiff, ↓reduceIte]
          refine AWp_seqK fun K39 hK39 => ?_
          refine AWp_seqK fun K40 hK40 => ?_
          refine AWp_region ?_
          refine aops_chunk 2 fun C41 hC41 => ?_
          simp only [List.take_succ_cons, List.take_zero, ↓aops, ↓aop, ↓aWant, ↓aVal, St.ev, St.get, St.put, St.new, List.getD_cons_zero, List.getD_cons_succ, List.set_cons_zero, List.set_cons_succ, AV.flat, AV.cl, AV.one, Value.oneCell', true_and, and_true, thenQ, blockQ, if_true, if_false, ↓reduceIte, Bool.false_eq_true, Bool.not_true, Bool.not_false, Nat.reduceEqDiff, reduceCtorEq, Ty.cells_one, Ty.cells_len, Ty.cells_take1, Ty.cells_drop1, Ty.cells_drop2, Ty.cells_take3, List.length_map, intC]
          refine hC41 _ ?_
          try clear hC41 C41
          simp only [List.drop_succ_cons, List.drop_zero]
          simp only [↓aops, ↓aop, ↓aWant, ↓aVal, St.ev, St.get, St.put, St.new, List.getD_cons_zero, List.getD_cons_succ, List.set_cons_zero, List.set_cons_succ, AV.flat, AV.cl, AV.one, Value.oneCell', true_and, and_true, thenQ, blockQ, if_true, if_false, ↓reduceIte, Bool.false_eq_true, Bool.not_true, Bool.not_false, Nat.reduceEqDiff, reduceCtorEq, aLen, ln22, List.length_map, aBin, Ty.cells_one, Ty.cells_len, Ty.cells_take1, Ty.cells_drop1, Ty.cells_drop2, Ty.cells_take3, intC]
          refine hK40 _ ?_
          try clear hK40 K40
          refine AWp_cond (by rfl) (fun hb51 => ?_) (fun hb51 => ?_)
          · skip
            have hk : s < ps.length := by simpa using hb51
            obtain ⟨p, hp⟩ : ∃ p, ps[s]? = some p := ⟨_, List.getElem?_eq_getElem hk⟩
            have hfl := List.length_filter_le Ty.right (ps.take s)
            have htl : (ps.take s).length ≤ s := by simp; omega
            have hw : IntKind.i64.wrap ((s : Int) + 1) = (s : Int) + 1 := wrap_in (by omega) (by omega)
            refine AWp_skip ?_
            simp only [thenQ, blockQ]
            refine hK39 _ ?_
            try clear hK39 K39
            refine AWp_seqK fun K42 hK42 => ?_
            refine AWp_block ?_
            refine AWp_seqK fun K43 hK43 => ?_
            refine AWp_seqK fun K44 hK44 => ?_
            refine AWp_region ?_
            refine aops_chunk 2 fun C45 hC45 => ?_
            simp only [List.take_succ_cons, List.take_zero, ↓aops, ↓aop, ↓aWant, ↓aVal, St.ev, St.get, St.put, St.new, List.getD_cons_zero, List.getD_cons_succ, List.set_cons_zero, List.set_cons_succ, AV.flat, AV.cl, AV.one, Value.oneCell', true_and, and_true, thenQ, blockQ, if_true, if_false, ↓reduceIte, Bool.false_eq_true, Bool.not_true, Bool.not_false, Nat.reduceEqDiff, reduceCtorEq, Ty.cells_one, Ty.cells_len, Ty.cells_take1, Ty.cells_drop1, Ty.cells_drop2, Ty.cells_take3, List.length_map, intC, hk, getD_map_cells hp, Int.natCast_add, Int.natCast_one, hw]
            refine hC45 _ ?_
            try clear hC45 C45
            simp only [List.drop_succ_cons, List.drop_zero]
            refine aops_chunk 2 fun C46 hC46 => ?_
            simp only [List.take_succ_cons, List.take_zero, ↓aops, ↓aop, ↓aWant, ↓aVal, St.ev, St.get, St.put, St.new, List.getD_cons_zero, List.getD_cons_succ, List.set_cons_zero, List.set_cons_succ, AV.flat, AV.cl, AV.one, Value.oneCell', true_and, and_true, thenQ, blockQ, if_true, if_false, ↓reduceIte, Bool.false_eq_true, Bool.not_true, Bool.not_false, Nat.reduceEqDiff, reduceCtorEq, aIndexA, es22, Int.natCast_nonneg, Int.ofNat_lt, Int.toNat_natCast, List.length_map, Int.le_refl, Int.toNat_zero, Int.toNat_one, Int.reduceLE, aLoad, ti32, getO, pack, List.length_cons, List.length_nil, Nat.reduceAdd, Nat.reduceLeDiff, Nat.zero_add, Nat.le_refl, List.drop_succ_cons, List.drop_zero, Ty.cells_one, Ty.cells_len, Ty.cells_take1, Ty.cells_drop1, Ty.cells_drop2, Ty.cells_take3, intC, hk, getD_map_cells hp, Int.natCast_add, Int.natCast_one, hw]
            refine hC46 _ ?_
            try clear hC46 C46
            simp only [List.drop_succ_cons, List.drop_zero]
            refine aops_chunk 1 fun C47 hC47 => ?_
            simp only [List.take_succ_cons, List.take_zero, ↓aops, ↓aop, ↓aWant, ↓aVal, St.ev, St.get, St.put, St.new, List.getD_cons_zero, List.getD_cons_succ, List.set_cons_zero, List.set_cons_succ, AV.flat, AV.cl, AV.one, Value.oneCell', true_and, and_true, thenQ, blockQ, if_true, if_false, ↓reduceIte, Bool.false_eq_true, Bool.not_true, Bool.not_false, Nat.reduceEqDiff, reduceCtorEq, aCallV, Array.toList_map, List.map_cons, List.map_nil, List.append_nil, List.cons_append, List.nil_append, Ty.cells_one, Ty.cells_len, Ty.cells_take1, Ty.cells_drop1, Ty.cells_drop2, Ty.cells_take3, List.length_map, intC, hk, getD_map_cells hp, Int.natCast_add, Int.natCast_one, hw]
            refine APure.call (RefRight_pure p) ?_
            try simp only [St.put, List.set_cons_zero, List.set_cons_succ, thenQ, blockQ]
            refine hC47 _ ?_
            try clear hC47 C47
            simp only [List.drop_succ_cons, List.drop_zero]
            simp only [↓aops, ↓aop, ↓aWant, ↓aVal, St.ev, St.get, St.put, St.new, List.getD_cons_zero, List.getD_cons_succ, List.set_cons_zero, List.set_cons_succ, AV.flat, AV.cl, AV.one, Value.oneCell', true_and, and_true, thenQ, blockQ, if_true, if_false, ↓reduceIte, Bool.false_eq_true, Bool.not_true, Bool.not_false, Nat.reduceEqDiff, reduceCtorEq, aUn, Ty.cells_one, Ty.cells_len, Ty.cells_take1, Ty.cells_drop1, Ty.cells_drop2, Ty.cells_take3, List.length_map, intC, hk, getD_map_cells hp, Int.natCast_add, Int.natCast_one, hw]
            refine hK44 _ ?_
            try clear hK44 K44
            refine AWp_cond (by rfl) (fun hb59 => ?_) (fun hb59 => ?_)
            · skip
              have hr : p.right = false := by simpa using hb59
              have hft := filter_take_no hp hr
              refine AWp_exit ?_
              simp only [thenQ, blockQ, if_true, Nat.reduceEqDiff, ↓reduceIte, if_false]
              refine hK42 _ ?_
              try clear hK42 K42
              refine AWp_region ?_
              refine aops_chunk 2 fun C48 hC48 => ?_
              simp only [List.take_succ_cons, List.take_zero, ↓aops, ↓aop, ↓aWant, ↓aVal, St.ev, St.get, St.put, St.new, List.getD_cons_zero, List.getD_cons_succ, List.set_cons_zero, List.set_cons_succ, AV.flat, AV.cl, AV.one, Value.oneCell', true_and, and_true, thenQ, blockQ, if_true, if_false, ↓reduceIte, Bool.false_eq_true, Bool.not_true, Bool.not_false, Nat.reduceEqDiff, reduceCtorEq, aBin, Ty.cells_one, Ty.cells_len, Ty.cells_take1, Ty.cells_drop1, Ty.cells_drop2, Ty.cells_take3, List.length_map, intC, hk, getD_map_cells hp, Int.natCast_add, Int.natCast_one, hw, hft]
              refine hC48 _ ?_
              try clear hC48 C48
              simp only [List.drop_succ_cons, List.drop_zero]
              simp only [↓aops, ↓aop, ↓aWant, ↓aVal, St.ev, St.get, St.put, St.new, List.getD_cons_zero, List.getD_cons_succ, List.set_cons_zero, List.set_cons_succ, AV.flat, AV.cl, AV.one, Value.oneCell', true_and, and_true, thenQ, blockQ, if_true, if_false, ↓reduceIte, Bool.false_eq_true, Bool.not_true, Bool.not_false, Nat.reduceEqDiff, reduceCtorEq, Ty.cells_one, Ty.cells_len, Ty.cells_take1, Ty.cells_drop1, Ty.cells_drop2, Ty.cells_take3, List.length_map, intC, hk, getD_map_cells hp, Int.natCast_add, Int.natCast_one, hw, hft]
              refine ⟨(s + 1), (by omega), by omega, ?_⟩
              simp only [maskL, setsL, putsO, putO, List.set_cons_zero, List.set_cons_succ, Nat.reduceEqDiff, ↓reduceIte, hk, getD_map_cells hp, Int.natCast_add, Int.natCast_one, hw, hft]
              first | (refine Weak.drops 1 3 rfl rfl (by simp only; omega) (by simp only; omega) ?_ ?_ ?_) | (refine Weak.drops 0 3 rfl rfl (by simp only; omega) (by simp only; omega) ?_ ?_ ?_)
              · simp only [LeL, Le.refl, Le.any, and_self, Int.natCast_add, Int.cast_ofNat_Int, Int.natCast_one]
              · simp only [UndL, UndOs, Ob.Und, and_true, true_and, and_self, Und.v, Und.any, Und.ptr, Und.map, Nat.reduceLT, Nat.zero_lt_succ, Und.tys, Und.tyAgg, Und.oslTys, Und.oslTys1, Und.ty, Und.oslG, Und.oslI, Und.oslI1, Und.oslI2, Und.mapG, und_ints]
              · simp only [UndL, UndOs, Ob.Und, and_true, true_and, and_self, Und.v, Und.any, Und.ptr, Und.map, Nat.reduceLT, Nat.zero_lt_succ, Und.tys, Und.tyAgg, Und.oslTys, Und.oslTys1, Und.ty, Und.oslG, Und.oslI, Und.oslI1, Und.oslI2, Und.mapG, und_ints]
            · skip
              have hr : p.right = true := by simpa using hb59
              have hft := filter_take_yes hp hr
              have hfa := filter_at hp hr
              have hkl := (List.getElem?_eq_some_iff.1 hfa).1
              obtain ⟨a, ha⟩ : ∃ a, (bothF ps).l[((ps.take s).filter Ty.right).length]? = some a := ⟨_, List.getElem?_eq_getElem (by omega)⟩
              obtain ⟨ha0, ha1⟩ := hI.at' _ a p ha hfa
              have ha2 := hP.get ha1
              obtain ⟨r, hr2, hrt⟩ : ∃ r, (bothF (ps ++ qs)).m[a.toNat]? = some r ∧ r.t = p := by
                cases hm : (bothF (ps ++ qs)).m[a.toNat]? with
                | none => rw [hm] at ha2; cases ha2
                | some r => rw [hm] at ha2; exact ⟨r, rfl, Option.some.inj ha2⟩
              have hpc := hcs p (by simp [List.mem_of_getElem? hp])
              have hty := hrl.type hr2 400
              rw [hrt, if_neg (by omega), show ((a.toNat : Nat) : Int) = a by omega] at hty
              have hka : ((ps.take s).filter Ty.right).length < (bothF ps).l.length := by omega
              have hw9 : IntKind.i64.wrap (((((ps.take s).filter Ty.right).length : Nat) : Int) + 1) = (((ps.take s).filter Ty.right).length : Nat) + 1 := wrap_in (by omega) (by omega)
              refine AWp_skip ?_
              simp only [thenQ, blockQ]
              refine hK43 _ ?_
              try clear hK43 K43
              refine AWp_seqK fun K49 hK49 => ?_
              refine AWp_seqK fun K50 hK50 => ?_
              refine AWp_region ?_
              refine aops_chunk 2 fun C51 hC51 => ?_
              simp only [List.take_succ_cons, List.take_zero, ↓aops, ↓aop, ↓aWant, ↓aVal, St.ev, St.get, St.put, St.new, List.getD_cons_zero, List.getD_cons_succ, List.set_cons_zero, List.set_cons_succ, AV.flat, AV.cl, AV.one, Value.oneCell', true_and, and_true, thenQ, blockQ, if_true, if_false, ↓reduceIte, Bool.false_eq_true, Bool.not_true, Bool.not_false, Nat.reduceEqDiff, reduceCtorEq, Ty.cells_one, Ty.cells_len, Ty.cells_take1, Ty.cells_drop1, Ty.cells_drop2, Ty.cells_take3, List.length_map, intC, hk, getD_map_cells hp, Int.natCast_add, Int.natCast_one, hw, hft, hty, hka, getD_map_cells ha, hw9]
              refine hC51 _ ?_
              try clear hC51 C51
              simp only [List.drop_succ_cons, List.drop_zero]
              refine aops_chunk 2 fun C52 hC52 => ?_
              simp only [List.take_succ_cons, List.take_zero, ↓aops, ↓aop, ↓aWant, ↓aVal, St.ev, St.get, St.put, St.new, List.getD_cons_zero, List.getD_cons_succ, List.set_cons_zero, List.set_cons_succ, AV.flat, AV.cl, AV.one, Value.oneCell', true_and, and_true, thenQ, blockQ, if_true, if_false, ↓reduceIte, Bool.false_eq_true, Bool.not_true, Bool.not_false, Nat.reduceEqDiff, reduceCtorEq, aIndexA, es28, Int.natCast_nonneg, Int.ofNat_lt, Int.toNat_natCast, List.length_map, Int.le_refl, Int.toNat_zero, Int.toNat_one, Int.reduceLE, Ty.cells_one, Ty.cells_len, Ty.cells_take1, Ty.cells_drop1, Ty.cells_drop2, Ty.cells_take3, intC, hk, getD_map_cells hp, Int.natCast_add, Int.natCast_one, hw, hft, hty, hka, getD_map_cells ha, hw9]
              refine hC52 _ ?_
              try clear hC52 C52
              simp only [List.drop_succ_cons, List.drop_zero]
              refine aops_chunk 1 fun C53 hC53 => ?_
              simp only [List.take_succ_cons, List.take_zero, ↓aops, ↓aop, ↓aWant, ↓aVal, St.ev, St.get, St.put, St.new, List.getD_cons_zero, List.getD_cons_succ, List.set_cons_zero, List.set_cons_succ, AV.flat, AV.cl, AV.one, Value.oneCell', true_and, and_true, thenQ, blockQ, if_true, if_false, ↓reduceIte, Bool.false_eq_true, Bool.not_true, Bool.not_false, Nat.reduceEqDiff, reduceCtorEq, aLoad, ti3, getO, pack, List.length_cons, List.length_nil, Nat.reduceAdd, Nat.reduceLeDiff, Nat.zero_add, Nat.le_refl, List.drop_succ_cons, List.drop_zero, Ty.cells_one, Ty.cells_len, Ty.cells_take1, Ty.cells_drop1, Ty.cells_drop2, Ty.cells_take3, List.length_map, intC, hk, getD_map_cells hp, Int.natCast_add, Int.natCast_one, hw, hft, hty, hka, getD_map_cells ha, hw9]
              refine hC53 _ ?_
              try clear hC53 C53
              simp only [List.drop_succ_cons, List.drop_zero]
              refine aops_chunk 1 fun C54 hC54 => ?_
              simp only [List.take_succ_cons, List.take_zero, ↓aops, ↓aop, ↓aWant, ↓aVal, St.ev, St.get, St.put, St.new, List.getD_cons_zero, List.getD_cons_succ, List.set_cons_zero, List.set_cons_succ, AV.flat, AV.cl, AV.one, Value.oneCell', true_and, and_true, thenQ, blockQ, if_true, if_false, ↓reduceIte, Bool.false_eq_true, Bool.not_true, Bool.not_false, Nat.reduceEqDiff, reduceCtorEq, aCallV, Array.toList_map, List.map_cons, List.map_nil, List.append_nil, List.cons_append, List.nil_append, Ty.cells_one, Ty.cells_len, Ty.cells_take1, Ty.cells_drop1, Ty.cells_drop2, Ty.cells_take3, List.length_map, intC, hk, getD_map_cells hp, Int.natCast_add, Int.natCast_one, hw, hft, hty, hka, getD_map_cells ha, hw9]
              refine GCalls.at (Type_calls (bothF (ps ++ qs)).G a 400 hwf) (.cons (.v _) (.cons (.v _) .nil)) (.tup (.cons (Ty.dataAgg _) (.cons (.v _) .nil))) (i := 1) (j := 2) (k := 0) rfl rfl rfl (by decide) (by decide) (by decide) (by first | omega | (simp only; omega)) (by first | omega | (simp only; omega)) (by first | omega | (simp only; omega)) ?_
              simp only [putO, Nat.reduceEqDiff, ↓reduceIte]
              try simp only [St.put, List.set_cons_zero, List.set_cons_succ, thenQ, blockQ]
              refine hC54 _ ?_
              try clear hC54 C54
              simp only [List.drop_succ_cons, List.drop_zero]
              refine aops_chunk 2 fun C55 hC55 => ?_
              simp only [List.take_succ_cons, List.take_zero, ↓aops, ↓aop, ↓aWant, ↓aVal, St.ev, St.get, St.put, St.new, List.getD_cons_zero, List.getD_cons_succ, List.set_cons_zero, List.set_cons_succ, AV.flat, AV.cl, AV.one, Value.oneCell', true_and, and_true, thenQ, blockQ, if_true, if_false, ↓reduceIte, Bool.false_eq_true, Bool.not_true, Bool.not_false, Nat.reduceEqDiff, reduceCtorEq, aExtract, List.length_cons, List.length_nil, Nat.reduceAdd, Nat.reduceLT, Nat.zero_lt_succ, Ty.cells_one, Ty.cells_len, Ty.cells_take1, Ty.cells_drop1, Ty.cells_drop2, Ty.cells_take3, List.length_map, intC, hk, getD_map_cells hp, Int.natCast_add, Int.natCast_one, hw, hft, hty, hka, getD_map_cells ha, hw9]
              refine hC55 _ ?_
              try clear hC55 C55
              simp only [List.drop_succ_cons, List.drop_zero]
              refine aops_chunk 2 fun C56 hC56 => ?_
              simp only [List.take_succ_cons, List.take_zero, ↓aops, ↓aop, ↓aWant, ↓aVal, St.ev, St.get, St.put, St.new, List.getD_cons_zero, List.getD_cons_succ, List.set_cons_zero, List.set_cons_succ, AV.flat, AV.cl, AV.one, Value.oneCell', true_and, and_true, thenQ, blockQ, if_true, if_false, ↓reduceIte, Bool.false_eq_true, Bool.not_true, Bool.not_false, Nat.reduceEqDiff, reduceCtorEq, aExtract, List.length_cons, List.length_nil, Nat.reduceAdd, Nat.reduceLT, Nat.zero_lt_succ, zc32, List.map_cons, List.map_nil, Ty.cells_one, Ty.cells_len, Ty.cells_take1, Ty.cells_drop1, Ty.cells_drop2, Ty.cells_take3, List.length_map, intC, hk, getD_map_cells hp, Int.natCast_add, Int.natCast_one, hw, hft, hty, hka, getD_map_cells ha, hw9]
              refine hC56 _ ?_
              try clear hC56 C56
              simp only [List.drop_succ_cons, List.drop_zero]
              simp only [↓aops, ↓aop, ↓aWant, ↓aVal, St.ev, St.get, St.put, St.new, List.getD_cons_zero, List.getD_cons_succ, List.set_cons_zero, List.set_cons_succ, AV.flat, AV.cl, AV.one, Value.oneCell', true_and, and_true, thenQ, blockQ, if_true, if_false, ↓reduceIte, Bool.false_eq_true, Bool.not_true, Bool.not_false, Nat.reduceEqDiff, reduceCtorEq, aStore, ti32, getO, putO, splice, List.length_cons, List.length_nil, Nat.reduceAdd, Nat.reduceLeDiff, Nat.zero_add, Nat.le_refl, List.take_succ_cons, List.take_zero, List.drop_succ_cons, List.drop_zero, List.all_cons, List.all_nil, Bool.and_true, List.nil_append, List.cons_append, List.append_nil, List.map_cons, List.map_nil, Ty.cells_one, Ty.cells_len, Ty.cells_take1, Ty.cells_drop1, Ty.cells_drop2, Ty.cells_take3, List.length_map, intC, hk, getD_map_cells hp, Int.natCast_add, Int.natCast_one, hw, hft, hty, hka, getD_map_cells ha, hw9]
              refine hK50 _ ?_
              try clear hK50 K50
              refine AWp_seqK fun K57 hK57 => ?_
              refine AWp_drawK 11 mixed (by kernel_rfl) fun K58 hK58 => ?_
              simp only [List.take_succ_cons, List.take_zero]
              refine dRun_chunk 2 fun C59 hC59 => ?_
              simp only [List.take_succ_cons, List.take_zero, ↓dRun, ↓dOp, exists_eq_left, ↓aops, ↓aop, ↓aWant, ↓aVal, St.ev, St.get, St.put, St.new, List.getD_cons_zero, List.getD_cons_succ, List.set_cons_zero, List.set_cons_succ, AV.flat, AV.cl, AV.one, Value.oneCell', true_and, and_true, thenQ, blockQ, if_true, if_false, ↓reduceIte, Bool.false_eq_true, Bool.not_true, Bool.not_false, Nat.reduceEqDiff, reduceCtorEq, aBin, exists_eq_left', Ty.cells_one, Ty.cells_len, Ty.cells_take1, Ty.cells_drop1, Ty.cells_drop2, Ty.cells_take3, List.length_map, intC, hk, getD_map_cells hp, Int.natCast_add, Int.natCast_one, hw, hft, hty, hka, getD_map_cells ha, hw9]
              refine hC59 _ ?_
              try clear hC59 C59
              simp only [List.drop_succ_cons, List.drop_zero]
              refine dRun_chunk 1 fun C60 hC60 => ?_
              simp only [List.take_succ_cons, List.take_zero, ↓dRun, ↓dOp, exists_eq_left, ↓aops, ↓aop, ↓aWant, ↓aVal, St.ev, St.get, St.put, St.new, List.getD_cons_zero, List.getD_cons_succ, List.set_cons_zero, List.set_cons_succ, AV.flat, AV.cl, AV.one, Value.oneCell', true_and, and_true, thenQ, blockQ, if_true, if_false, ↓reduceIte, Bool.false_eq_true, Bool.not_true, Bool.not_false, Nat.reduceEqDiff, reduceCtorEq, exists_eq_left', Ty.cells_one, Ty.cells_len, Ty.cells_take1, Ty.cells_drop1, Ty.cells_drop2, Ty.cells_take3, List.length_map, intC, hk, getD_map_cells hp, Int.natCast_add, Int.natCast_one, hw, hft, hty, hka, getD_map_cells ha, hw9]
              refine hC60 _ ?_
              try clear hC60 C60
              simp only [List.drop_succ_cons, List.drop_zero]
              refine dRun_case 71 (by rfl) (fun hc71 => ?_) (fun hc71 => ?_)
              · simp only [List.set_cons_zero, List.set_cons_succ]
                exact absurd hc71 (by simp [Ty.same_refl])
              · simp only [List.set_cons_zero, List.set_cons_succ]
                refine dRun_chunk 2 fun C61 hC61 => ?_
                simp only [List.take_succ_cons, List.take_zero, ↓dRun, ↓dOp, exists_eq_left, ↓aops, ↓aop, ↓aWant, ↓aVal, St.ev, St.get, St.put, St.new, List.getD_cons_zero, List.getD_cons_succ, List.set_cons_zero, List.set_cons_succ, AV.flat, AV.cl, AV.one, Value.oneCell', true_and, and_true, thenQ, blockQ, if_true, if_false, ↓reduceIte, Bool.false_eq_true, Bool.not_true, Bool.not_false, Nat.reduceEqDiff, reduceCtorEq, List.getElem?_cons_zero, List.getElem?_cons_succ, Option.bind_some, undef, aLoad, ti32, getO, pack, List.length_cons, List.length_nil, Nat.reduceAdd, Nat.reduceLeDiff, Nat.zero_add, Nat.le_refl, List.drop_succ_cons, List.drop_zero, exists_eq_left', Ty.cells_one, Ty.cells_len, Ty.cells_take1, Ty.cells_drop1, Ty.cells_drop2, Ty.cells_take3, List.length_map, intC, hk, getD_map_cells hp, Int.natCast_add, Int.natCast_one, hw, hft, hty, hka, getD_map_cells ha, hw9]
                refine hC61 _ ?_
                try clear hC61 C61
                simp only [List.drop_succ_cons, List.drop_zero]
                refine dRun_chunk 2 fun C62 hC62 => ?_
                simp only [List.take_succ_cons, List.take_zero, ↓dRun, ↓dOp, exists_eq_left, ↓aops, ↓aop, ↓aWant, ↓aVal, St.ev, St.get, St.put, St.new, List.getD_cons_zero, List.getD_cons_succ, List.set_cons_zero, List.set_cons_succ, AV.flat, AV.cl, AV.one, Value.oneCell', true_and, and_true, thenQ, blockQ, if_true, if_false, ↓reduceIte, Bool.false_eq_true, Bool.not_true, Bool.not_false, Nat.reduceEqDiff, reduceCtorEq, List.getElem?_cons_zero, List.getElem?_cons_succ, Option.bind_some, undef, aIndexA, es22, Int.natCast_nonneg, Int.ofNat_lt, Int.toNat_natCast, List.length_map, Int.le_refl, Int.toNat_zero, Int.toNat_one, Int.reduceLE, exists_eq_left', Ty.cells_one, Ty.cells_len, Ty.cells_take1, Ty.cells_drop1, Ty.cells_drop2, Ty.cells_take3, intC, hk, getD_map_cells hp, Int.natCast_add, Int.natCast_one, hw, hft, hty, hka, getD_map_cells ha, hw9]
                refine hC62 _ ?_
                try clear hC62 C62
                simp only [List.drop_succ_cons, List.drop_zero]
                refine dRun_chunk 1 fun C63 hC63 => ?_
                simp only [List.take_succ_cons, List.take_zero, ↓dRun, ↓dOp, exists_eq_left, ↓aops, ↓aop, ↓aWant, ↓aVal, St.ev, St.get, St.put, St.new, List.getD_cons_zero, List.getD_cons_succ, List.set_cons_zero, List.set_cons_succ, AV.flat, AV.cl, AV.one, Value.oneCell', true_and, and_true, thenQ, blockQ, if_true, if_false, ↓reduceIte, Bool.false_eq_true, Bool.not_true, Bool.not_false, Nat.reduceEqDiff, reduceCtorEq, List.getElem?_cons_zero, List.getElem?_cons_succ, Option.bind_some, undef, aLoad, ti32, getO, pack, List.length_cons, List.length_nil, Nat.reduceAdd, Nat.reduceLeDiff, Nat.zero_add, Nat.le_refl, List.drop_succ_cons, List.drop_zero, exists_eq_left', Ty.cells_one, Ty.cells_len, Ty.cells_take1, Ty.cells_drop1, Ty.cells_drop2, Ty.cells_take3, List.length_map, intC, hk, getD_map_cells hp, Int.natCast_add, Int.natCast_one, hw, hft, hty, hka, getD_map_cells ha, hw9]
                refine hC63 _ ?_
                try clear hC63 C63
                simp only [List.drop_succ_cons, List.drop_zero]
                refine dRun_chunk 1 fun C64 hC64 => ?_
                simp only [List.take_succ_cons, List.take_zero, ↓dRun, ↓dOp, exists_eq_left, ↓aops, ↓aop, ↓aWant, ↓aVal, St.ev, St.get, St.put, St.new, List.getD_cons_zero, List.getD_cons_succ, List.set_cons_zero, List.set_cons_succ, AV.flat, AV.cl, AV.one, Value.oneCell', true_and, and_true, thenQ, blockQ, if_true, if_false, ↓reduceIte, Bool.false_eq_true, Bool.not_true, Bool.not_false, Nat.reduceEqDiff, reduceCtorEq, List.getElem?_cons_zero, List.getElem?_cons_succ, Option.bind_some, undef, aCallV, Array.toList_map, List.map_cons, List.map_nil, List.append_nil, List.cons_append, List.nil_append, Ty.cells_one, Ty.cells_len, Ty.cells_take1, Ty.cells_drop1, Ty.cells_drop2, Ty.cells_take3, List.length_map, intC, hk, getD_map_cells hp, Int.natCast_add, Int.natCast_one, hw, hft, hty, hka, getD_map_cells ha, hw9]
                refine ⟨_, Same_pure p p, ?_⟩
                try simp only [St.put, List.set_cons_zero, List.set_cons_succ, thenQ, blockQ]
                refine hC64 _ ?_
                try clear hC64 C64
                simp only [List.drop_succ_cons, List.drop_zero]
                simp only [↓dRun, ↓dOp, exists_eq_left, ↓aops, ↓aop, ↓aWant, ↓aVal, St.ev, St.get, St.put, St.new, List.getD_cons_zero, List.getD_cons_succ, List.set_cons_zero, List.set_cons_succ, AV.flat, AV.cl, AV.one, Value.oneCell', true_and, and_true, thenQ, blockQ, if_true, if_false, ↓reduceIte, Bool.false_eq_true, Bool.not_true, Bool.not_false, Nat.reduceEqDiff, reduceCtorEq, List.getElem?_cons_zero, List.getElem?_cons_succ, Option.bind_some, undef, aUn, aBool, exists_eq_left', Ty.cells_one, Ty.cells_len, Ty.cells_take1, Ty.cells_drop1, Ty.cells_drop2, Ty.cells_take3, List.length_map, intC, hk, getD_map_cells hp, Int.natCast_add, Int.natCast_one, hw, hft, hty, hka, getD_map_cells ha, hw9]
                refine hK58 _ ?_
                try clear hK58 K58
                simp only [List.drop_succ_cons, List.drop_zero, aops, thenQ, blockQ]
                refine hK57 _ ?_
                try clear hK57 K57
                refine AWp_cond (by rfl) (fun hb79 => ?_) (fun hb79 => ?_)
                · skip
                  exact absurd hb79 (by simp [Ty.same_refl])
                · skip
                  refine AWp_skip ?_
                  simp only [thenQ, blockQ]
                  refine hK49 _ ?_
                  try clear hK49 K49
                  refine AWp_region ?_
                  refine aops_chunk 2 fun C65 hC65 => ?_
                  simp only [List.take_succ_cons, List.take_zero, ↓aops, ↓aop, ↓aWant, ↓aVal, St.ev, St.get, St.put, St.new, List.getD_cons_zero, List.getD_cons_succ, List.set_cons_zero, List.set_cons_succ, AV.flat, AV.cl, AV.one, Value.oneCell', true_and, and_true, thenQ, blockQ, if_true, if_false, ↓reduceIte, Bool.false_eq_true, Bool.not_true, Bool.not_false, Nat.reduceEqDiff, reduceCtorEq, aBin, Ty.cells_one, Ty.cells_len, Ty.cells_take1, Ty.cells_drop1, Ty.cells_drop2, Ty.cells_take3, List.length_map, intC, hk, getD_map_cells hp, Int.natCast_add, Int.natCast_one, hw, hft, hty, hka, getD_map_cells ha, hw9]
                  refine hC65 _ ?_
                  try clear hC65 C65
                  simp only [List.drop_succ_cons, List.drop_zero]
                  simp only [↓aops, ↓aop, ↓aWant, ↓aVal, St.ev, St.get, St.put, St.new, List.getD_cons_zero, List.getD_cons_succ, List.set_cons_zero, List.set_cons_succ, AV.flat, AV.cl, AV.one, Value.oneCell', true_and, and_true, thenQ, blockQ, if_true, if_false, ↓reduceIte, Bool.false_eq_true, Bool.not_true, Bool.not_false, Nat.reduceEqDiff, reduceCtorEq, Ty.cells_one, Ty.cells_len, Ty.cells_take1, Ty.cells_drop1, Ty.cells_drop2, Ty.cells_take3, List.length_map, intC, hk, getD_map_cells hp, Int.natCast_add, Int.natCast_one, hw, hft, hty, hka, getD_map_cells ha, hw9]
                  refine hK42 _ ?_
                  try clear hK42 K42
                  refine AWp_region ?_
                  refine aops_chunk 2 fun C66 hC66 => ?_
                  simp only [List.take_succ_cons, List.take_zero, ↓aops, ↓aop, ↓aWant, ↓aVal, St.ev, St.get, St.put, St.new, List.getD_cons_zero, List.getD_cons_succ, List.set_cons_zero, List.set_cons_succ, AV.flat, AV.cl, AV.one, Value.oneCell', true_and, and_true, thenQ, blockQ, if_true, if_false, ↓reduceIte, Bool.false_eq_true, Bool.not_true, Bool.not_false, Nat.reduceEqDiff, reduceCtorEq, aBin, Ty.cells_one, Ty.cells_len, Ty.cells_take1, Ty.cells_drop1, Ty.cells_drop2, Ty.cells_take3, List.length_map, intC, hk, getD_map_cells hp, Int.natCast_add, Int.natCast_one, hw, hft, hty, hka, getD_map_cells ha, hw9]
                  refine hC66 _ ?_
                  try clear hC66 C66
                  simp only [List.drop_succ_cons, List.drop_zero]
                  simp only [↓aops, ↓aop, ↓aWant, ↓aVal, St.ev, St.get, St.put, St.new, List.getD_cons_zero, List.getD_cons_succ, List.set_cons_zero, List.set_cons_succ, AV.flat, AV.cl, AV.one, Value.oneCell', true_and, and_true, thenQ, blockQ, if_true, if_false, ↓reduceIte, Bool.false_eq_true, Bool.not_true, Bool.not_false, Nat.reduceEqDiff, reduceCtorEq, Ty.cells_one, Ty.cells_len, Ty.cells_take1, Ty.cells_drop1, Ty.cells_drop2, Ty.cells_take3, List.length_map, intC, hk, getD_map_cells hp, Int.natCast_add, Int.natCast_one, hw, hft, hty, hka, getD_map_cells ha, hw9]
                  refine ⟨(s + 1), (by omega), by omega, ?_⟩
                  simp only [maskL, setsL, putsO, putO, List.set_cons_zero, List.set_cons_succ, Nat.reduceEqDiff, ↓reduceIte, hk, getD_map_cells hp, Int.natCast_add, Int.natCast_one, hw, hft, hty, hka, getD_map_cells ha, hw9]
                  first | (refine Weak.drops 1 3 rfl rfl (by simp only; omega) (by simp only; omega) ?_ ?_ ?_) | (refine Weak.drops 0 3 rfl rfl (by simp only; omega) (by simp only; omega) ?_ ?_ ?_)
                  · simp only [LeL, Le.refl, Le.any, and_self, Int.natCast_add, Int.cast_ofNat_Int, Int.natCast_one]
                  · simp only [UndL, UndOs, Ob.Und, and_true, true_and, and_self, Und.v, Und.any, Und.ptr, Und.map, Nat.reduceLT, Nat.zero_lt_succ, Und.tys, Und.tyAgg, Und.oslTys, Und.oslTys1, Und.ty, Und.oslG, Und.oslI, Und.oslI1, Und.oslI2, Und.mapG, und_ints]
                  · simp only [UndL, UndOs, Ob.Und, and_true, true_and, and_self, Und.v, Und.any, Und.ptr, Und.map, Nat.reduceLT, Nat.zero_lt_succ, Und.tys, Und.tyAgg, Und.oslTys, Und.oslTys1, Und.ty, Und.oslG, Und.oslI, Und.oslI1, Und.oslI2, Und.mapG, und_ints]
          · skip
            refine AWp_exit ?_
            simp only [thenQ, blockQ, if_true, Nat.reduceEqDiff, ↓reduceIte, if_false]
            refine hK37 _ ?_
            try clear hK37 K37
            refine AWp_seqK fun K67 hK67 => ?_
            refine AWp_seqK fun K68 hK68 => ?_
            refine AWp_region ?_
            simp only [↓aops, ↓aop, ↓aWant, ↓aVal, St.ev, St.get, St.put, St.new, List.getD_cons_zero, List.getD_cons_succ, List.set_cons_zero, List.set_cons_succ, AV.flat, AV.cl, AV.one, Value.oneCell', true_and, and_true, thenQ, blockQ, if_true, if_false, ↓reduceIte, Bool.false_eq_true, Bool.not_true, Bool.not_false, Nat.reduceEqDiff, reduceCtorEq, Ty.cells_one, Ty.cells_len, Ty.cells_take1, Ty.cells_drop1, Ty.cells_drop2, Ty.cells_take3, List.length_map, intC]
            refine hK68 _ ?_
            try clear hK68 K68
            refine AWp_block ?_
            refine AWp_loopM (σ := Nat) [false, false, false, false, false, true, false, false, false, true, false, false, false, false, false, true, false, false, false, false, false, false, false, false, false, false, false, false, false, false, false, false, false, false, false, false, false, false, false, false, false, false, false, false, false, false, false, false, false, false, false, false, false, false, false, false, false, false, false, false, false, false, false, false, false, false, false, false, false, false, false, false, false, false, false, false, false, false, false, false, false, false, false, false, false, false, false, false, false, false, false, false, false, false, false, false, false, false, false, false, false, false, false, false, false, false, false, false, false, false, false, false, false, false, false, false, false] (fun s => s ≤ (bothF (ps ++ qs)).G.N.length) (fun s => [(15, .v (.int .i64 (s : Int)))]) (fun s => []) (fun s => (bothF (ps ++ qs)).G.N.length - s) 0 (by omega) ?_ (fun s hs => ?_)
            · skip
              simp only [maskL, setsL, putsO, putO, List.set_cons_zero, List.set_cons_succ, Nat.reduceEqDiff, ↓reduceIte]
              exact Weak.mk (by simp only [LeL, Le.refl, Le.any, Le.slNil, and_self, Int.natCast_add, Int.cast_ofNat_Int, Int.natCast_one]) (fun _ _ h => h) rfl rfl
            simp only [maskL, setsL, putsO, putO, List.set_cons_zero, List.set_cons_succ, Nat.reduceEqDiff, ↓reduceIte]
            refine AWp_seqK fun K69 hK69 => ?_
            refine AWp_seqK fun K70 hK70 => ?_
            refine AWp_region ?_
            refine aops_chunk 2 fun C71 hC71 => ?_
            simp only [List.take_succ_cons, List.take_zero, ↓aops, ↓aop, ↓aWant, ↓aVal, St.ev, St.get, St.put, St.new, List.getD_cons_zero, List.getD_cons_succ, List.set_cons_zero, List.set_cons_succ, AV.flat, AV.cl, AV.one, Value.oneCell', true_and, and_true, thenQ, blockQ, if_true, if_false, ↓reduceIte, Bool.false_eq_true, Bool.not_true, Bool.not_false, Nat.reduceEqDiff, reduceCtorEq, Ty.cells_one, Ty.cells_len, Ty.cells_take1, Ty.cells_drop1, Ty.cells_drop2, Ty.cells_take3, List.length_map, intC]
            refine hC71 _ ?_
            try clear hC71 C71
            simp only [List.drop_succ_cons, List.drop_zero]
            refine aops_chunk 1 fun C72 hC72 => ?_
            simp only [List.take_succ_cons, List.take_zero, ↓aops, ↓aop, ↓aWant, ↓aVal, St.ev, St.get, St.put, St.new, List.getD_cons_zero, List.getD_cons_succ, List.set_cons_zero, List.set_cons_succ, AV.flat, AV.cl, AV.one, Value.oneCell', true_and, and_true, thenQ, blockQ, if_true, if_false, ↓reduceIte, Bool.false_eq_true, Bool.not_true, Bool.not_false, Nat.reduceEqDiff, reduceCtorEq, aCallV, Array.toList_map, List.map_cons, List.map_nil, List.append_nil, List.cons_append, List.nil_append, Ty.cells_one, Ty.cells_len, Ty.cells_take1, Ty.cells_drop1, Ty.cells_drop2, Ty.cells_take3, List.length_map, intC]
            refine GCalls.at (Len_calls (bothF (ps ++ qs)).G) (.nil) (.v _) (i := 1) (j := 2) (k := 0) rfl rfl rfl (by decide) (by decide) (by decide) (by first | omega | (simp only; omega)) (by first | omega | (simp only; omega)) (by first | omega | (simp only; omega)) ?_
            simp only [putO, Nat.reduceEqDiff, ↓reduceIte]
            try simp only [St.put, List.set_cons_zero, List.set_cons_succ, thenQ, blockQ]
            refine hC72 _ ?_
            try clear hC72 C72
            simp only [List.drop_succ_cons, List.drop_zero]
            simp only [↓aops, ↓aop, ↓aWant, ↓aVal, St.ev, St.get, St.put, St.new, List.getD_cons_zero, List.getD_cons_succ, List.set_cons_zero, List.set_cons_succ, AV.flat, AV.cl, AV.one, Value.oneCell', true_and, and_true, thenQ, blockQ, if_true, if_false, ↓reduceIte, Bool.false_eq_true, Bool.not_true, Bool.not_false, Nat.reduceEqDiff, reduceCtorEq, aBin, Ty.cells_one, Ty.cells_len, Ty.cells_take1, Ty.cells_drop1, Ty.cells_drop2, Ty.cells_take3, List.length_map, intC]
            refine hK70 _ ?_
            try clear hK70 K70
            refine AWp_cond (by rfl) (fun hb85 => ?_) (fun hb85 => ?_)
            · skip
              have hk : s < (bothF (ps ++ qs)).G.N.length := by simpa using hb85
              obtain ⟨x, hx⟩ : ∃ x, (bothF (ps ++ qs)).G.N[s]? = some x := ⟨_, List.getElem?_eq_getElem hk⟩
              have hxp : (bothF (ps ++ qs)).G.parts (s : Int) = x.parts := GS.parts_in (by omega) (by simpa using hx)
              obtain ⟨hx1, hx2⟩ := hwf s x hx
              have hw : IntKind.i64.wrap ((s : Int) + 1) = (s : Int) + 1 := wrap_in (by omega) (by omega)
              refine AWp_skip ?_
              simp only [thenQ, blockQ]
              refine hK69 _ ?_
              try clear hK69 K69
              refine AWp_seqK fun K73 hK73 => ?_
              refine AWp_block ?_
              refine AWp_seqK fun K74 hK74 => ?_
              refine AWp_region ?_
              refine aops_chunk 2 fun C75 hC75 => ?_
              simp only [List.take_succ_cons, List.take_zero, ↓aops, ↓aop, ↓aWant, ↓aVal, St.ev, St.get, St.put, St.new, List.getD_cons_zero, List.getD_cons_succ, List.set_cons_zero, List.set_cons_succ, AV.flat, AV.cl, AV.one, Value.oneCell', true_and, and_true, thenQ, blockQ, if_true, if_false, ↓reduceIte, Bool.false_eq_true, Bool.not_true, Bool.not_false, Nat.reduceEqDiff, reduceCtorEq, Ty.cells_one, Ty.cells_len, Ty.cells_take1, Ty.cells_drop1, Ty.cells_drop2, Ty.cells_take3, List.length_map, intC, hk, hxp, Int.natCast_add, Int.natCast_one, hw]
              refine hC75 _ ?_
              try clear hC75 C75
              simp only [List.drop_succ_cons, List.drop_zero]
              refine aops_chunk 1 fun C76 hC76 => ?_
              simp only [List.take_succ_cons, List.take_zero, ↓aops, ↓aop, ↓aWant, ↓aVal, St.ev, St.get, St.put, St.new, List.getD_cons_zero, List.getD_cons_succ, List.set_cons_zero, List.set_cons_succ, AV.flat, AV.cl, AV.one, Value.oneCell', true_and, and_true, thenQ, blockQ, if_true, if_false, ↓reduceIte, Bool.false_eq_true, Bool.not_true, Bool.not_false, Nat.reduceEqDiff, reduceCtorEq, aCallV, Array.toList_map, List.map_cons, List.map_nil, List.append_nil, List.cons_append, List.nil_append, Ty.cells_one, Ty.cells_len, Ty.cells_take1, Ty.cells_drop1, Ty.cells_drop2, Ty.cells_take3, List.length_map, intC, hk, hxp, Int.natCast_add, Int.natCast_one, hw]
              refine GCalls.at (Parts_calls (bothF (ps ++ qs)).G (s : Int) (fun x hx => by obtain ⟨i, hi, e⟩ := List.mem_iff_getElem.1 hx; exact (hwf i x (by rw [List.getElem?_eq_getElem hi, e])).2)) (.cons (.v _) .nil) (dataInts _) (i := 1) (j := 2) (k := 0) rfl rfl rfl (by decide) (by decide) (by decide) (by first | omega | (simp only; omega)) (by first | omega | (simp only; omega)) (by first | omega | (simp only; omega)) ?_
              simp only [putO, Nat.reduceEqDiff, ↓reduceIte]
              try simp only [St.put, List.set_cons_zero, List.set_cons_succ, thenQ, blockQ]
              refine hC76 _ ?_
              try clear hC76 C76
              simp only [List.drop_succ_cons, List.drop_zero]
              simp only [↓aops, ↓aop, ↓aWant, ↓aVal, St.ev, St.get, St.put, St.new, List.getD_cons_zero, List.getD_cons_succ, List.set_cons_zero, List.set_cons_succ, AV.flat, AV.cl, AV.one, Value.oneCell', true_and, and_true, thenQ, blockQ, if_true, if_false, ↓reduceIte, Bool.false_eq_true, Bool.not_true, Bool.not_false, Nat.reduceEqDiff, reduceCtorEq, Ty.cells_one, Ty.cells_len, Ty.cells_take1, Ty.cells_drop1, Ty.cells_drop2, Ty.cells_take3, List.length_map, intC, hk, hxp, Int.natCast_add, Int.natCast_one, hw]
              refine hK74 _ ?_
              try clear hK74 K74
              refine AWp_seqK fun K77 hK77 => ?_
              refine AWp_region ?_
              simp only [↓aops, ↓aop, ↓aWant, ↓aVal, St.ev, St.get, St.put, St.new, List.getD_cons_zero, List.getD_cons_succ, List.set_cons_zero, List.set_cons_succ, AV.flat, AV.cl, AV.one, Value.oneCell', true_and, and_true, thenQ, blockQ, if_true, if_false, ↓reduceIte, Bool.false_eq_true, Bool.not_true, Bool.not_false, Nat.reduceEqDiff, reduceCtorEq, Ty.cells_one, Ty.cells_len, Ty.cells_take1, Ty.cells_drop1, Ty.cells_drop2, Ty.cells_take3, List.length_map, intC, hk, hxp, Int.natCast_add, Int.natCast_one, hw]
              refine hK77 _ ?_
              try clear hK77 K77
              refine AWp_block ?_
              refine AWp_loopM (σ := Nat) [false, false, false, false, false, true, false, false, false, true, false, false, false, false, false, true, true, true, false, false, false, false, false, false, false, false, false, false, false, false, false, false, false, false, false, false, false, false, false, false, false, false, false, false, false, false, false, false, false, false, false, false, false, false, false, false, false, false, false, false, false, false, false, false, false, false, false, false, false, false, false, false, false, false, false, false, false, false, false, false, false, false, false, false, false, false, false, false, false, false, false, false, false, false, false, false, false, false, false, false, false, false, false, false, false, false, false, false, false, false, false, false, false, false, false, false, false] (fun j => j ≤ x.parts.length) (fun j => [(17, .v (.int .i64 (j : Int)))]) (fun j => []) (fun j => x.parts.length - j) 0 (by omega) ?_ (fun j hj => ?_)
              · skip
                simp only [maskL, setsL, putsO, putO, List.set_cons_zero, List.set_cons_succ, Nat.reduceEqDiff, ↓reduceIte]
                exact Weak.mk (by simp only [LeL, Le.refl, Le.any, Le.slNil, and_self, Int.natCast_add, Int.cast_ofNat_Int, Int.natCast_one]) (fun _ _ h => h) rfl rfl
              simp only [maskL, setsL, putsO, putO, List.set_cons_zero, List.set_cons_succ, Nat.reduceEqDiff, ↓reduceIte]
              refine AWp_seqK fun K78 hK78 => ?_
              refine AWp_seqK fun K79 hK79 => ?_
              refine AWp_region ?_
              refine aops_chunk 2 fun C80 hC80 => ?_
              simp only [List.take_succ_cons, List.take_zero, ↓aops, ↓aop, ↓aWant, ↓aVal, St.ev, St.get, St.put, St.new, List.getD_cons_zero, List.getD_cons_succ, List.set_cons_zero, List.set_cons_succ, AV.flat, AV.cl, AV.one, Value.oneCell', true_and, and_true, thenQ, blockQ, if_true, if_false, ↓reduceIte, Bool.false_eq_true, Bool.not_true, Bool.not_false, Nat.reduceEqDiff, reduceCtorEq, Ty.cells_one, Ty.cells_len, Ty.cells_take1, Ty.cells_drop1, Ty.cells_drop2, Ty.cells_take3, List.length_map, intC, hk, hxp, Int.natCast_add, Int.natCast_one, hw]
              refine hC80 _ ?_
              try clear hC80 C80
              simp only [List.drop_succ_cons, List.drop_zero]
              simp only [↓aops, ↓aop, ↓aWant, ↓aVal, St.ev, St.get, St.put, St.new, List.getD_cons_zero, List.getD_cons_succ, List.set_cons_zero, List.set_cons_succ, AV.flat, AV.cl, AV.one, Value.oneCell', true_and, and_true, thenQ, blockQ, if_true, if_false, ↓reduceIte, Bool.false_eq_true, Bool.not_true, Bool.not_false, Nat.reduceEqDiff, reduceCtorEq, aLen, ln28, List.length_map, aBin, Ty.cells_one, Ty.cells_len, Ty.cells_take1, Ty.cells_drop1, Ty.cells_drop2, Ty.cells_take3, intC, hk, hxp, Int.natCast_add, Int.natCast_one, hw]
              refine hK79 _ ?_
              try clear hK79 K79
              refine AWp_cond (by rfl) (fun hb94 => ?_) (fun hb94 => ?_)
              · skip
                have hkj : j < x.parts.length := by simpa using hb94
                obtain ⟨p, hp⟩ : ∃ p, x.parts[j]? = some p := ⟨_, List.getElem?_eq_getElem hkj⟩
                obtain ⟨hp0, hp1⟩ := hx1 p (List.mem_of_getElem? hp)
                have hwj : IntKind.i64.wrap ((j : Int) + 1) = (j : Int) + 1 := wrap_in (by omega) (by omega)
                refine AWp_skip ?_
                simp only [thenQ, blockQ]
                refine hK78 _ ?_
                try clear hK78 K78
                refine AWp_seqK fun K81 hK81 => ?_
                refine AWp_block ?_
                refine AWp_seqK fun K82 hK82 => ?_
                refine AWp_region ?_
                refine aops_chunk 2 fun C83 hC83 => ?_
                simp only [List.take_succ_cons, List.take_zero, ↓aops, ↓aop, ↓aWant, ↓aVal, St.ev, St.get, St.put, St.new, List.getD_cons_zero, List.getD_cons_succ, List.set_cons_zero, List.set_cons_succ, AV.flat, AV.cl, AV.one, Value.oneCell', true_and, and_true, thenQ, blockQ, if_true, if_false, ↓reduceIte, Bool.false_eq_true, Bool.not_true, Bool.not_false, Nat.reduceEqDiff, reduceCtorEq, Ty.cells_one, Ty.cells_len, Ty.cells_take1, Ty.cells_drop1, Ty.cells_drop2, Ty.cells_take3, List.length_map, intC, hk, hxp, Int.natCast_add, Int.natCast_one, hw, hkj, getD_map_cells hp, hwj]
                refine hC83 _ ?_
                try clear hC83 C83
                simp only [List.drop_succ_cons, List.drop_zero]
                refine aops_chunk 2 fun C84 hC84 => ?_
                simp only [List.take_succ_cons, List.take_zero, ↓aops, ↓aop, ↓aWant, ↓aVal, St.ev, St.get, St.put, St.new, List.getD_cons_zero, List.getD_cons_succ, List.set_cons_zero, List.set_cons_succ, AV.flat, AV.cl, AV.one, Value.oneCell', true_and, and_true, thenQ, blockQ, if_true, if_false, ↓reduceIte, Bool.false_eq_true, Bool.not_true, Bool.not_false, Nat.reduceEqDiff, reduceCtorEq, aIndexA, es28, Int.natCast_nonneg, Int.ofNat_lt, Int.toNat_natCast, List.length_map, Int.le_refl, Int.toNat_zero, Int.toNat_one, Int.reduceLE, aLoad, ti3, getO, pack, List.length_cons, List.length_nil, Nat.reduceAdd, Nat.reduceLeDiff, Nat.zero_add, Nat.le_refl, List.drop_succ_cons, List.drop_zero, Ty.cells_one, Ty.cells_len, Ty.cells_take1, Ty.cells_drop1, Ty.cells_drop2, Ty.cells_take3, intC, hk, hxp, Int.natCast_add, Int.natCast_one, hw, hkj, getD_map_cells hp, hwj]
                refine hC84 _ ?_
                try clear hC84 C84
                simp only [List.drop_succ_cons, List.drop_zero]
                refine aops_chunk 2 fun C85 hC85 => ?_
                simp only [List.take_succ_cons, List.take_zero, ↓aops, ↓aop, ↓aWant, ↓aVal, St.ev, St.get, St.put, St.new, List.getD_cons_zero, List.getD_cons_succ, List.set_cons_zero, List.set_cons_succ, AV.flat, AV.cl, AV.one, Value.oneCell', true_and, and_true, thenQ, blockQ, if_true, if_false, ↓reduceIte, Bool.false_eq_true, Bool.not_true, Bool.not_false, Nat.reduceEqDiff, reduceCtorEq, aBin, Ty.cells_one, Ty.cells_len, Ty.cells_take1, Ty.cells_drop1, Ty.cells_drop2, Ty.cells_take3, List.length_map, intC, hk, hxp, Int.natCast_add, Int.natCast_one, hw, hkj, getD_map_cells hp, hwj]
                refine hC85 _ ?_
                try clear hC85 C85
                simp only [List.drop_succ_cons, List.drop_zero]
                refine aops_case 102 (by rfl) (fun hc102 => ?_) (fun hc102 => ?_)
                · simp only [List.set_cons_zero, List.set_cons_succ]
                  exact absurd hc102 (by simp; omega)
                · simp only [List.set_cons_zero, List.set_cons_succ]
                  refine aops_chunk 2 fun C86 hC86 => ?_
                  simp only [List.take_succ_cons, List.take_zero, ↓aops, ↓aop, ↓aWant, ↓aVal, St.ev, St.get, St.put, St.new, List.getD_cons_zero, List.getD_cons_succ, List.set_cons_zero, List.set_cons_succ, AV.flat, AV.cl, AV.one, Value.oneCell', true_and, and_true, thenQ, blockQ, if_true, if_false, ↓reduceIte, Bool.false_eq_true, Bool.not_true, Bool.not_false, Nat.reduceEqDiff, reduceCtorEq, List.getElem?_cons_zero, List.getElem?_cons_succ, Option.bind_some, undef, Ty.cells_one, Ty.cells_len, Ty.cells_take1, Ty.cells_drop1, Ty.cells_drop2, Ty.cells_take3, List.length_map, intC, hk, hxp, Int.natCast_add, Int.natCast_one, hw, hkj, getD_map_cells hp, hwj]
                  refine hC86 _ ?_
                  try clear hC86 C86
                  simp only [List.drop_succ_cons, List.drop_zero]
                  refine aops_chunk 2 fun C87 hC87 => ?_
                  simp only [List.take_succ_cons, List.take_zero, ↓aops, ↓aop, ↓aWant, ↓aVal, St.ev, St.get, St.put, St.new, List.getD_cons_zero, List.getD_cons_succ, List.set_cons_zero, List.set_cons_succ, AV.flat, AV.cl, AV.one, Value.oneCell', true_and, and_true, thenQ, blockQ, if_true, if_false, ↓reduceIte, Bool.false_eq_true, Bool.not_true, Bool.not_false, Nat.reduceEqDiff, reduceCtorEq, List.getElem?_cons_zero, List.getElem?_cons_succ, Option.bind_some, undef, aIndexA, es28, Int.natCast_nonneg, Int.ofNat_lt, Int.toNat_natCast, List.length_map, Int.le_refl, Int.toNat_zero, Int.toNat_one, Int.reduceLE, aLoad, ti3, getO, pack, List.length_cons, List.length_nil, Nat.reduceAdd, Nat.reduceLeDiff, Nat.zero_add, Nat.le_refl, List.drop_succ_cons, List.drop_zero, Ty.cells_one, Ty.cells_len, Ty.cells_take1, Ty.cells_drop1, Ty.cells_drop2, Ty.cells_take3, intC, hk, hxp, Int.natCast_add, Int.natCast_one, hw, hkj, getD_map_cells hp, hwj]
                  refine hC87 _ ?_
                  try clear hC87 C87
                  simp only [List.drop_succ_cons, List.drop_zero]
                  refine aops_chunk 2 fun C88 hC88 => ?_
                  simp only [List.take_succ_cons, List.take_zero, ↓aops, ↓aop, ↓aWant, ↓aVal, St.ev, St.get, St.put, St.new, List.getD_cons_zero, List.getD_cons_succ, List.set_cons_zero, List.set_cons_succ, AV.flat, AV.cl, AV.one, Value.oneCell', true_and, and_true, thenQ, blockQ, if_true, if_false, ↓reduceIte, Bool.false_eq_true, Bool.not_true, Bool.not_false, Nat.reduceEqDiff, reduceCtorEq, List.getElem?_cons_zero, List.getElem?_cons_succ, Option.bind_some, undef, aBin, Ty.cells_one, Ty.cells_len, Ty.cells_take1, Ty.cells_drop1, Ty.cells_drop2, Ty.cells_take3, List.length_map, intC, hk, hxp, Int.natCast_add, Int.natCast_one, hw, hkj, getD_map_cells hp, hwj]
                  refine hC88 _ ?_
                  try clear hC88 C88
                  simp only [List.drop_succ_cons, List.drop_zero]
                  simp only [↓aops, ↓aop, ↓aWant, ↓aVal, St.ev, St.get, St.put, St.new, List.getD_cons_zero, List.getD_cons_succ, List.set_cons_zero, List.set_cons_succ, AV.flat, AV.cl, AV.one, Value.oneCell', true_and, and_true, thenQ, blockQ, if_true, if_false, ↓reduceIte, Bool.false_eq_true, Bool.not_true, Bool.not_false, Nat.reduceEqDiff, reduceCtorEq, aBool, Ty.cells_one, Ty.cells_len, Ty.cells_take1, Ty.cells_drop1, Ty.cells_drop2, Ty.cells_take3, List.length_map, intC, hk, hxp, Int.natCast_add, Int.natCast_one, hw, hkj, getD_map_cells hp, hwj]
                  refine hK82 _ ?_
                  try clear hK82 K82
                  refine AWp_cond (by rfl) (fun hb109 => ?_) (fun hb109 => ?_)
                  · skip
                    exact absurd hb109 (by simp; omega)
                  · skip
                    refine AWp_skip ?_
                    simp only [thenQ, blockQ]
                    refine hK81 _ ?_
                    try clear hK81 K81
                    refine AWp_region ?_
                    refine aops_chunk 2 fun C89 hC89 => ?_
                    simp only [List.take_succ_cons, List.take_zero, ↓aops, ↓aop, ↓aWant, ↓aVal, St.ev, St.get, St.put, St.new, List.getD_cons_zero, List.getD_cons_succ, List.set_cons_zero, List.set_cons_succ, AV.flat, AV.cl, AV.one, Value.oneCell', true_and, and_true, thenQ, blockQ, if_true, if_false, ↓reduceIte, Bool.false_eq_true, Bool.not_true, Bool.not_false, Nat.reduceEqDiff, reduceCtorEq, aBin, Ty.cells_one, Ty.cells_len, Ty.cells_take1, Ty.cells_drop1, Ty.cells_drop2, Ty.cells_take3, List.length_map, intC, hk, hxp, Int.natCast_add, Int.natCast_one, hw, hkj, getD_map_cells hp, hwj]
                    refine hC89 _ ?_
                    try clear hC89 C89
                    simp only [List.drop_succ_cons, List.drop_zero]
                    simp only [↓aops, ↓aop, ↓aWant, ↓aVal, St.ev, St.get, St.put, St.new, List.getD_cons_zero, List.getD_cons_succ, List.set_cons_zero, List.set_cons_succ, AV.flat, AV.cl, AV.one, Value.oneCell', true_and, and_true, thenQ, blockQ, if_true, if_false, ↓reduceIte, Bool.false_eq_true, Bool.not_true, Bool.not_false, Nat.reduceEqDiff, reduceCtorEq, Ty.cells_one, Ty.cells_len, Ty.cells_take1, Ty.cells_drop1, Ty.cells_drop2, Ty.cells_take3, List.length_map, intC, hk, hxp, Int.natCast_add, Int.natCast_one, hw, hkj, getD_map_cells hp, hwj]
                    refine ⟨(j + 1), (by omega), by omega, ?_⟩
                    simp only [maskL, setsL, putsO, putO, List.set_cons_zero, List.set_cons_succ, Nat.reduceEqDiff, ↓reduceIte, hkj, getD_map_cells hp, Int.natCast_add, Int.natCast_one, hwj]
                    exact Weak.mk (by simp only [LeL, Le.refl, Le.any, Le.slNil, and_self, Int.natCast_add, Int.cast_ofNat_Int, Int.natCast_one]) (fun _ _ h => h) rfl rfl
              · skip
                refine AWp_exit ?_
                simp only [thenQ, blockQ, if_true, Nat.reduceEqDiff, ↓reduceIte, if_false]
                refine hK73 _ ?_
                try clear hK73 K73
                refine AWp_region ?_
                refine aops_chunk 2 fun C90 hC90 => ?_
                simp only [List.take_succ_cons, List.take_zero, ↓aops, ↓aop, ↓aWant, ↓aVal, St.ev, St.get, St.put, St.new, List.getD_cons_zero, List.getD_cons_succ, List.set_cons_zero, List.set_cons_succ, AV.flat, AV.cl, AV.one, Value.oneCell', true_and, and_true, thenQ, blockQ, if_true, if_false, ↓reduceIte, Bool.false_eq_true, Bool.not_true, Bool.not_false, Nat.reduceEqDiff, reduceCtorEq, aBin, Ty.cells_one, Ty.cells_len, Ty.cells_take1, Ty.cells_drop1, Ty.cells_drop2, Ty.cells_take3, List.length_map, intC, hk, hxp, Int.natCast_add, Int.natCast_one, hw]
                refine hC90 _ ?_
                try clear hC90 C90
                simp only [List.drop_succ_cons, List.drop_zero]
                simp only [↓aops, ↓aop, ↓aWant, ↓aVal, St.ev, St.get, St.put, St.new, List.getD_cons_zero, List.getD_cons_succ, List.set_cons_zero, List.set_cons_succ, AV.flat, AV.cl, AV.one, Value.oneCell', true_and, and_true, thenQ, blockQ, if_true, if_false, ↓reduceIte, Bool.false_eq_true, Bool.not_true, Bool.not_false, Nat.reduceEqDiff, reduceCtorEq, Ty.cells_one, Ty.cells_len, Ty.cells_take1, Ty.cells_drop1, Ty.cells_drop2, Ty.cells_take3, List.length_map, intC, hk, hxp, Int.natCast_add, Int.natCast_one, hw]
                refine ⟨(s + 1), (by omega), by omega, ?_⟩
                simp only [maskL, setsL, putsO, putO, List.set_cons_zero, List.set_cons_succ, Nat.reduceEqDiff, ↓reduceIte, hk, hxp, Int.natCast_add, Int.natCast_one, hw]
                exact Weak.mk (by simp only [LeL, Le.refl, Le.any, Le.slNil, and_self, Int.natCast_add, Int.cast_ofNat_Int, Int.natCast_one]) (fun _ _ h => h) rfl rfl
            · skip
              refine AWp_exit ?_
              simp only [thenQ, blockQ, if_true, Nat.reduceEqDiff, ↓reduceIte, if_false]
              refine hK67 _ ?_
              try clear hK67 K67
              refine AWp_seqK fun K91 hK91 => ?_
              refine AWp_region ?_
              refine aops_chunk 1 fun C92 hC92 => ?_
              simp only [List.take_succ_cons, List.take_zero, ↓aops, ↓aop, ↓aWant, ↓aVal, St.ev, St.get, St.put, St.new, List.getD_cons_zero, List.getD_cons_succ, List.set_cons_zero, List.set_cons_succ, AV.flat, AV.cl, AV.one, Value.oneCell', true_and, and_true, thenQ, blockQ, if_true, if_false, ↓reduceIte, Bool.false_eq_true, Bool.not_true, Bool.not_false, Nat.reduceEqDiff, reduceCtorEq, Ty.cells_one, Ty.cells_len, Ty.cells_take1, Ty.cells_drop1, Ty.cells_drop2, Ty.cells_take3, List.length_map, intC]
              refine hC92 _ ?_
              try clear hC92 C92
              simp only [List.drop_succ_cons, List.drop_zero]
              refine aops_chunk 1 fun C93 hC93 => ?_
              simp only [List.take_succ_cons, List.take_zero, ↓aops, ↓aop, ↓aWant, ↓aVal, St.ev, St.get, St.put, St.new, List.getD_cons_zero, List.getD_cons_succ, List.set_cons_zero, List.set_cons_succ, AV.flat, AV.cl, AV.one, Value.oneCell', true_and, and_true, thenQ, blockQ, if_true, if_false, ↓reduceIte, Bool.false_eq_true, Bool.not_true, Bool.not_false, Nat.reduceEqDiff, reduceCtorEq, aCallV, Array.toList_map, List.map_cons, List.map_nil, List.append_nil, List.cons_append, List.nil_append, Ty.cells_one, Ty.cells_len, Ty.cells_take1, Ty.cells_drop1, Ty.cells_drop2, Ty.cells_take3, List.length_map, intC]
              refine GCalls.at (Len_calls (bothF (ps ++ qs)).G) (.nil) (.v _) (i := 1) (j := 2) (k := 0) rfl rfl rfl (by decide) (by decide) (by decide) (by first | omega | (simp only; omega)) (by first | omega | (simp only; omega)) (by first | omega | (simp only; omega)) ?_
              simp only [putO, Nat.reduceEqDiff, ↓reduceIte]
              try simp only [St.put, List.set_cons_zero, List.set_cons_succ, thenQ, blockQ]
              refine hC93 _ ?_
              try clear hC93 C93
              simp only [List.drop_succ_cons, List.drop_zero]
              refine aops_chunk 2 fun C94 hC94 => ?_
              simp only [List.take_succ_cons, List.take_zero, ↓aops, ↓aop, ↓aWant, ↓aVal, St.ev, St.get, St.put, St.new, List.getD_cons_zero, List.getD_cons_succ, List.set_cons_zero, List.set_cons_succ, AV.flat, AV.cl, AV.one, Value.oneCell', true_and, and_true, thenQ, blockQ, if_true, if_false, ↓reduceIte, Bool.false_eq_true, Bool.not_true, Bool.not_false, Nat.reduceEqDiff, reduceCtorEq, aBin, Ty.cells_one, Ty.cells_len, Ty.cells_take1, Ty.cells_drop1, Ty.cells_drop2, Ty.cells_take3, List.length_map, intC]
              refine hC94 _ ?_
              try clear hC94 C94
              simp only [List.drop_succ_cons, List.drop_zero]
              refine aops_chunk 1 fun C95 hC95 => ?_
              simp only [List.take_succ_cons, List.take_zero, ↓aops, ↓aop, ↓aWant, ↓aVal, St.ev, St.get, St.put, St.new, List.getD_cons_zero, List.getD_cons_succ, List.set_cons_zero, List.set_cons_succ, AV.flat, AV.cl, AV.one, Value.oneCell', true_and, and_true, thenQ, blockQ, if_true, if_false, ↓reduceIte, Bool.false_eq_true, Bool.not_true, Bool.not_false, Nat.reduceEqDiff, reduceCtorEq, Ty.cells_one, Ty.cells_len, Ty.cells_take1, Ty.cells_drop1, Ty.cells_drop2, Ty.cells_take3, List.length_map, intC]
              refine hC95 _ ?_
              try clear hC95 C95
              simp only [List.drop_succ_cons, List.drop_zero]
              refine aops_case 114 (by rfl) (fun hc114 => ?_) (fun hc114 => ?_)
              · simp only [List.set_cons_zero, List.set_cons_succ]
                refine aops_chunk 1 fun C96 hC96 => ?_
                simp only [List.take_succ_cons, List.take_zero, ↓aops, ↓aop, ↓aWant, ↓aVal, St.ev, St.get, St.put, St.new, List.getD_cons_zero, List.getD_cons_succ, List.set_cons_zero, List.set_cons_succ, AV.flat, AV.cl, AV.one, Value.oneCell', true_and, and_true, thenQ, blockQ, if_true, if_false, ↓reduceIte, Bool.false_eq_true, Bool.not_true, Bool.not_false, Nat.reduceEqDiff, reduceCtorEq, List.getElem?_cons_zero, List.getElem?_cons_succ, Option.bind_some, undef, aCallV, Array.toList_map, List.map_cons, List.map_nil, List.append_nil, List.cons_append, List.nil_append, Ty.cells_one, Ty.cells_len, Ty.cells_take1, Ty.cells_drop1, Ty.cells_drop2, Ty.cells_take3, List.length_map, intC]
                refine APure.call (awake_pure) ?_
                try simp only [St.put, List.set_cons_zero, List.set_cons_succ, thenQ, blockQ]
                refine hC96 _ ?_
                try clear hC96 C96
                simp only [List.drop_succ_cons, List.drop_zero]
                simp only [↓aops, ↓aop, ↓aWant, ↓aVal, St.ev, St.get, St.put, St.new, List.getD_cons_zero, List.getD_cons_succ, List.set_cons_zero, List.set_cons_succ, AV.flat, AV.cl, AV.one, Value.oneCell', true_and, and_true, thenQ, blockQ, if_true, if_false, ↓reduceIte, Bool.false_eq_true, Bool.not_true, Bool.not_false, Nat.reduceEqDiff, reduceCtorEq, aBool, Ty.cells_one, Ty.cells_len, Ty.cells_take1, Ty.cells_drop1, Ty.cells_drop2, Ty.cells_take3, List.length_map, intC]
                refine hK91 _ ?_
                try clear hK91 K91
                refine AWp_ret ?_
                simp only [thenQ, blockQ, retQ, aRes, tupOf, St.get, List.getD_cons_zero, List.getD_cons_succ]
                exact Le.refl _
              · simp only [List.set_cons_zero, List.set_cons_succ]
                exact absurd hc114 (by simp; omega)
end Go.Proofs.Ytohdoloalolpfaa
