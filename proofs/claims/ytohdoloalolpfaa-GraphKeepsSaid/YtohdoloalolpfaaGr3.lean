import Derived.Test.YtohdoloalolpfaaGr2
namespace Go.Proofs.Ytohdoloalolpfaa
open Go Go.RowKit
set_option maxRecDepth 100000
set_option linter.unusedSimpArgs false
set_option linter.unusedVariables false
def Ty.gAdd (t : Ty) (G : GS) : GS × Int × Int := if t.right = true then ((t.gadd G).1, (t.gadd G).2, 0) else (G, 0, 1)
theorem lookup_at {α : Type} (l : List α) (i : Int) (h : 0 ≤ i ∧ i < l.length) : ∃ x, l[i.toNat]? = some x := ⟨_, List.getElem?_eq_getElem (by omega)⟩
theorem ints_one (l : List Int) : ((l.map intC).all fun y => y.all AV.one) = true := by
  rw [List.all_eq_true]
  intro y hy
  obtain ⟨r, _, rfl⟩ := List.mem_map.1 hy
  rfl
def GS.there (G : GS) (i : Int) : Bool := decide (0 ≤ i ∧ i < (G.N.length : Int))
def GS.parts (G : GS) (i : Int) : List Int := if 0 ≤ i then ((G.N[i.toNat]?).map GNode.parts).getD [] else []
theorem GS.parts_in {G : GS} {i : Int} {x : GNode} (h : 0 ≤ i) (hx : G.N[i.toNat]? = some x) : G.parts i = x.parts := by rw [GS.parts, if_pos h, hx]; rfl
theorem GS.parts_out {G : GS} {i : Int} (h : ¬ (0 ≤ i ∧ i < (G.N.length : Int))) : G.parts i = [] := by
  rw [GS.parts]
  split
  · rw [List.getElem?_eq_none (by omega)]; rfl
  · rfl
theorem Add_calls (T : Ty) (G : GS) (hG : GInv G) (hl : G.N.length + T.cnt ≤ 1099511627776) : GCalls 18 [.ptr 0 0, .agg T.cells] (G.N) (G.V) (.tup [.v (.int .i64 (T.gAdd G).2.1), .v (.int .i64 (T.gAdd G).2.2)]) ((T.gAdd G).1.N) ((T.gAdd G).1.V) := by
  refine ACalls.clean (C := fun r os => r = _ ∧ os = _) ?_
  refine ACalls_intro Try.func18 (by kernel_rfl) rfl (by rw [Try.ntmps18]; simp) (fun hm => ?_)
  simp only [Try.ntmps18, Try.results18, List.length_cons, List.length_nil, Nat.reduceAdd, Nat.reduceSub, List.replicate_succ, List.replicate_zero, List.cons_append, List.nil_append]
  simp only [gObs, enumO, Nat.reduceAdd]
  refine AWp_seqK fun K1 hK1 => ?_
  refine AWp_region ?_
  refine aops_chunk 2 fun C2 hC2 => ?_
  simp only [List.take_succ_cons, List.take_zero, ↓aops, ↓aop, ↓aWant, ↓aVal, St.ev, St.get, St.put, St.new, List.getD_cons_zero, List.getD_cons_succ, List.set_cons_zero, List.set_cons_succ, AV.flat, AV.cl, AV.one, Value.oneCell', true_and, and_true, thenQ, blockQ, if_true, if_false, ↓reduceIte, Bool.false_eq_true, Bool.not_true, Bool.not_false, Nat.reduceEqDiff, reduceCtorEq, Ty.cells_one, Ty.cells_len, Ty.cells_take1, Ty.cells_drop1, Ty.cells_drop2, Ty.cells_take3]
  refine hC2 _ ?_
  try clear hC2 C2
  simp only [List.drop_succ_cons, List.drop_zero]
  simp only [↓aops, ↓aop, ↓aWant, ↓aVal, St.ev, St.get, St.put, St.new, List.getD_cons_zero, List.getD_cons_succ, List.set_cons_zero, List.set_cons_succ, AV.flat, AV.cl, AV.one, Value.oneCell', true_and, and_true, thenQ, blockQ, if_true, if_false, ↓reduceIte, Bool.false_eq_true, Bool.not_true, Bool.not_false, Nat.reduceEqDiff, reduceCtorEq, Ty.cells_one, Ty.cells_len, Ty.cells_take1, Ty.cells_drop1, Ty.cells_drop2, Ty.cells_take3]
  refine hK1 _ ?_
  try clear hK1 K1
  refine AWp_seqK fun K3 hK3 => ?_
  refine AWp_block ?_
  refine AWp_seqK fun K4 hK4 => ?_
  refine AWp_region ?_
  refine aops_chunk 2 fun C5 hC5 => ?_
  simp only [List.take_succ_cons, List.take_zero, ↓aops, ↓aop, ↓aWant, ↓aVal, St.ev, St.get, St.put, St.new, List.getD_cons_zero, List.getD_cons_succ, List.set_cons_zero, List.set_cons_succ, AV.flat, AV.cl, AV.one, Value.oneCell', true_and, and_true, thenQ, blockQ, if_true, if_false, ↓reduceIte, Bool.false_eq_true, Bool.not_true, Bool.not_false, Nat.reduceEqDiff, reduceCtorEq, aBin, pt25, Ty.cells_one, Ty.cells_len, Ty.cells_take1, Ty.cells_drop1, Ty.cells_drop2, Ty.cells_take3]
  refine hC5 _ ?_
  try clear hC5 C5
  simp only [List.drop_succ_cons, List.drop_zero]
  simp only [↓aops, ↓aop, ↓aWant, ↓aVal, St.ev, St.get, St.put, St.new, List.getD_cons_zero, List.getD_cons_succ, List.set_cons_zero, List.set_cons_succ, AV.flat, AV.cl, AV.one, Value.oneCell', true_and, and_true, thenQ, blockQ, if_true, if_false, ↓reduceIte, Bool.false_eq_true, Bool.not_true, Bool.not_false, Nat.reduceEqDiff, reduceCtorEq, Ty.cells_one, Ty.cells_len, Ty.cells_take1, Ty.cells_drop1, Ty.cells_drop2, Ty.cells_take3]
  refine hK4 _ ?_
  try clear hK4 K4
  refine AWp_cond (by rfl) (fun hb6 => ?_) (fun hb6 => ?_)
  · skip
    cases hb6
  · skip
    refine AWp_seqK fun K6 hK6 => ?_
    refine AWp_region ?_
    refine aops_chunk 1 fun C7 hC7 => ?_
    simp only [List.take_succ_cons, List.take_zero, ↓aops, ↓aop, ↓aWant, ↓aVal, St.ev, St.get, St.put, St.new, List.getD_cons_zero, List.getD_cons_succ, List.set_cons_zero, List.set_cons_succ, AV.flat, AV.cl, AV.one, Value.oneCell', true_and, and_true, thenQ, blockQ, if_true, if_false, ↓reduceIte, Bool.false_eq_true, Bool.not_true, Bool.not_false, Nat.reduceEqDiff, reduceCtorEq, aLoad, ti32, getO, pack, List.length_cons, List.length_nil, Nat.reduceAdd, Nat.reduceLeDiff, Nat.zero_add, Nat.le_refl, List.drop_succ_cons, List.drop_zero, Ty.cells_one, Ty.cells_len, Ty.cells_take1, Ty.cells_drop1, Ty.cells_drop2, Ty.cells_take3]
    refine hC7 _ ?_
    try clear hC7 C7
    simp only [List.drop_succ_cons, List.drop_zero]
    refine aops_chunk 1 fun C8 hC8 => ?_
    simp only [List.take_succ_cons, List.take_zero, ↓aops, ↓aop, ↓aWant, ↓aVal, St.ev, St.get, St.put, St.new, List.getD_cons_zero, List.getD_cons_succ, List.set_cons_zero, List.set_cons_succ, AV.flat, AV.cl, AV.one, Value.oneCell', true_and, and_true, thenQ, blockQ, if_true, if_false, ↓reduceIte, Bool.false_eq_true, Bool.not_true, Bool.not_false, Nat.reduceEqDiff, reduceCtorEq, aCallV, Array.toList_map, List.map_cons, List.map_nil, List.append_nil, List.cons_append, List.nil_append, Ty.cells_one, Ty.cells_len, Ty.cells_take1, Ty.cells_drop1, Ty.cells_drop2, Ty.cells_take3]
    refine APure.call (Right_pure T) ?_
    try simp only [St.put, List.set_cons_zero, List.set_cons_succ, thenQ, blockQ]
    refine hC8 _ ?_
    try clear hC8 C8
    simp only [List.drop_succ_cons, List.drop_zero]
    simp only [↓aops, ↓aop, ↓aWant, ↓aVal, St.ev, St.get, St.put, St.new, List.getD_cons_zero, List.getD_cons_succ, List.set_cons_zero, List.set_cons_succ, AV.flat, AV.cl, AV.one, Value.oneCell', true_and, and_true, thenQ, blockQ, if_true, if_false, ↓reduceIte, Bool.false_eq_true, Bool.not_true, Bool.not_false, Nat.reduceEqDiff, reduceCtorEq, aUn, Ty.cells_one, Ty.cells_len, Ty.cells_take1, Ty.cells_drop1, Ty.cells_drop2, Ty.cells_take3]
    refine hK6 _ ?_
    try clear hK6 K6
    refine AWp_cond (by rfl) (fun hb9 => ?_) (fun hb9 => ?_)
    · skip
      refine AWp_seqK fun K9 hK9 => ?_
      refine AWp_region ?_
      simp only [↓aops, ↓aop, ↓aWant, ↓aVal, St.ev, St.get, St.put, St.new, List.getD_cons_zero, List.getD_cons_succ, List.set_cons_zero, List.set_cons_succ, AV.flat, AV.cl, AV.one, Value.oneCell', true_and, and_true, thenQ, blockQ, if_true, if_false, ↓reduceIte, Bool.false_eq_true, Bool.not_true, Bool.not_false, Nat.reduceEqDiff, reduceCtorEq, Ty.cells_one, Ty.cells_len, Ty.cells_take1, Ty.cells_drop1, Ty.cells_drop2, Ty.cells_take3]
      refine hK9 _ ?_
      try clear hK9 K9
      refine AWp_ret ?_
      simp only [thenQ, blockQ, retQ, aRes, tupOf, St.get, List.getD_cons_zero, List.getD_cons_succ]
      have hr : T.right = false := by simpa using hb9
      have hg : T.gAdd G = (G, 0, 1) := by rw [Ty.gAdd, hr]; rfl
      rw [hg]
      refine ⟨_, enumO 0 (gObs (G.N) (G.V)), ⟨rfl, rfl⟩, .tup ⟨.v _ _, .v _ _, trivial⟩, gUnd (by omega) _ _, ?_, ?_, by omega⟩
      · refine Le.of_eq ?_
        rfl
      · first | (refine ⟨1, ?_, rfl⟩; first | rfl | (simp only [gObs, enumO, List.drop_succ_cons, List.drop_zero, List.map_append, List.map_cons, List.map_nil, List.length_append, List.length_cons, List.length_nil, GNode.cells, List.take_length, Nat.reduceAdd, Nat.zero_add]; done))
    · skip
      refine AWp_skip ?_
      simp only [thenQ, blockQ]
      refine hK3 _ ?_
      try clear hK3 K3
      refine AWp_seqK fun K10 hK10 => ?_
      refine AWp_region ?_
      refine aops_chunk 2 fun C11 hC11 => ?_
      simp only [List.take_succ_cons, List.take_zero, ↓aops, ↓aop, ↓aWant, ↓aVal, St.ev, St.get, St.put, St.new, List.getD_cons_zero, List.getD_cons_succ, List.set_cons_zero, List.set_cons_succ, AV.flat, AV.cl, AV.one, Value.oneCell', true_and, and_true, thenQ, blockQ, if_true, if_false, ↓reduceIte, Bool.false_eq_true, Bool.not_true, Bool.not_false, Nat.reduceEqDiff, reduceCtorEq, aLoad, ti32, getO, pack, List.length_cons, List.length_nil, Nat.reduceAdd, Nat.reduceLeDiff, Nat.zero_add, Nat.le_refl, List.drop_succ_cons, List.drop_zero, Ty.cells_one, Ty.cells_len, Ty.cells_take1, Ty.cells_drop1, Ty.cells_drop2, Ty.cells_take3]
      refine hC11 _ ?_
      try clear hC11 C11
      simp only [List.drop_succ_cons, List.drop_zero]
      refine aops_chunk 1 fun C12 hC12 => ?_
      simp only [List.take_succ_cons, List.take_zero, ↓aops, ↓aop, ↓aWant, ↓aVal, St.ev, St.get, St.put, St.new, List.getD_cons_zero, List.getD_cons_succ, List.set_cons_zero, List.set_cons_succ, AV.flat, AV.cl, AV.one, Value.oneCell', true_and, and_true, thenQ, blockQ, if_true, if_false, ↓reduceIte, Bool.false_eq_true, Bool.not_true, Bool.not_false, Nat.reduceEqDiff, reduceCtorEq, aCallV, Array.toList_map, List.map_cons, List.map_nil, List.append_nil, List.cons_append, List.nil_append, Ty.cells_one, Ty.cells_len, Ty.cells_take1, Ty.cells_drop1, Ty.cells_drop2, Ty.cells_take3]
      refine GCalls.at (add_calls T G hG (by omega)) (.cons (Ty.dataAgg T) .nil) (.v _) (i := 0) (j := 1) (k := 2) rfl rfl rfl (by decide) (by decide) (by decide) (by first | omega | (simp only; omega)) (by first | omega | (simp only; omega)) (by first | omega | (simp only; omega)) ?_
      simp only [putO, Nat.reduceEqDiff, ↓reduceIte]
      try simp only [St.put, List.set_cons_zero, List.set_cons_succ, thenQ, blockQ]
      refine hC12 _ ?_
      try clear hC12 C12
      simp only [List.drop_succ_cons, List.drop_zero]
      simp only [↓aops, ↓aop, ↓aWant, ↓aVal, St.ev, St.get, St.put, St.new, List.getD_cons_zero, List.getD_cons_succ, List.set_cons_zero, List.set_cons_succ, AV.flat, AV.cl, AV.one, Value.oneCell', true_and, and_true, thenQ, blockQ, if_true, if_false, ↓reduceIte, Bool.false_eq_true, Bool.not_true, Bool.not_false, Nat.reduceEqDiff, reduceCtorEq, Ty.cells_one, Ty.cells_len, Ty.cells_take1, Ty.cells_drop1, Ty.cells_drop2, Ty.cells_take3]
      refine hK10 _ ?_
      try clear hK10 K10
      refine AWp_ret ?_
      simp only [thenQ, blockQ, retQ, aRes, tupOf, St.get, List.getD_cons_zero, List.getD_cons_succ]
      have hr : T.right = true := by simpa using hb9
      have hg : T.gAdd G = ((T.gadd G).1, (T.gadd G).2, 0) := by rw [Ty.gAdd, hr]; rfl
      rw [hg]
      refine ⟨_, enumO 0 (gObs ((T.gadd G).1.N) ((T.gadd G).1.V)), ⟨rfl, rfl⟩, .tup ⟨.v _ _, .v _ _, trivial⟩, gUnd (by omega) _ _, ?_, ?_, by omega⟩
      · refine Le.of_eq ?_
        rfl
      · first | (refine ⟨1, ?_, rfl⟩; first | rfl | (simp only [gObs, enumO, List.drop_succ_cons, List.drop_zero, List.map_append, List.map_cons, List.map_nil, List.length_append, List.length_cons, List.length_nil, GNode.cells, List.take_length, Nat.reduceAdd, Nat.zero_add]; done))
theorem there_calls (G : GS) (i : Int) : GCalls 52 [.ptr 0 0, .v (.int .i64 i)] (G.N) (G.V) (.v (.bool (G.there i))) (G.N) (G.V) := by
  refine ACalls.clean (C := fun r os => r = _ ∧ os = _) ?_
  refine ACalls_intro Try.func52 (by kernel_rfl) rfl (by rw [Try.ntmps52]; simp) (fun hm => ?_)
  simp only [Try.ntmps52, Try.results52, List.length_cons, List.length_nil, Nat.reduceAdd, Nat.reduceSub, List.replicate_succ, List.replicate_zero, List.cons_append, List.nil_append]
  simp only [gObs, enumO, Nat.reduceAdd]
  refine AWp_seqK fun K1 hK1 => ?_
  refine AWp_region ?_
  simp only [↓aops, ↓aop, ↓aWant, ↓aVal, St.ev, St.get, St.put, St.new, List.getD_cons_zero, List.getD_cons_succ, List.set_cons_zero, List.set_cons_succ, AV.flat, AV.cl, AV.one, Value.oneCell', true_and, and_true, thenQ, blockQ, if_true, if_false, ↓reduceIte, Bool.false_eq_true, Bool.not_true, Bool.not_false, Nat.reduceEqDiff, reduceCtorEq, List.length_map]
  refine hK1 _ ?_
  try clear hK1 K1
  refine AWp_seqK fun K2 hK2 => ?_
  refine AWp_region ?_
  refine aops_chunk 2 fun C3 hC3 => ?_
  simp only [List.take_succ_cons, List.take_zero, ↓aops, ↓aop, ↓aWant, ↓aVal, St.ev, St.get, St.put, St.new, List.getD_cons_zero, List.getD_cons_succ, List.set_cons_zero, List.set_cons_succ, AV.flat, AV.cl, AV.one, Value.oneCell', true_and, and_true, thenQ, blockQ, if_true, if_false, ↓reduceIte, Bool.false_eq_true, Bool.not_true, Bool.not_false, Nat.reduceEqDiff, reduceCtorEq, aBin, pt25, List.length_map]
  refine hC3 _ ?_
  try clear hC3 C3
  simp only [List.drop_succ_cons, List.drop_zero]
  refine aops_chunk 1 fun C4 hC4 => ?_
  simp only [List.take_succ_cons, List.take_zero, ↓aops, ↓aop, ↓aWant, ↓aVal, St.ev, St.get, St.put, St.new, List.getD_cons_zero, List.getD_cons_succ, List.set_cons_zero, List.set_cons_succ, AV.flat, AV.cl, AV.one, Value.oneCell', true_and, and_true, thenQ, blockQ, if_true, if_false, ↓reduceIte, Bool.false_eq_true, Bool.not_true, Bool.not_false, Nat.reduceEqDiff, reduceCtorEq, List.length_map]
  refine hC4 _ ?_
  try clear hC4 C4
  simp only [List.drop_succ_cons, List.drop_zero]
  refine aops_case 7 (by rfl) (fun hc7 => ?_) (fun hc7 => ?_)
  · simp only [List.set_cons_zero, List.set_cons_succ]
    refine aops_chunk 2 fun C5 hC5 => ?_
    simp only [List.take_succ_cons, List.take_zero, ↓aops, ↓aop, ↓aWant, ↓aVal, St.ev, St.get, St.put, St.new, List.getD_cons_zero, List.getD_cons_succ, List.set_cons_zero, List.set_cons_succ, AV.flat, AV.cl, AV.one, Value.oneCell', true_and, and_true, thenQ, blockQ, if_true, if_false, ↓reduceIte, Bool.false_eq_true, Bool.not_true, Bool.not_false, Nat.reduceEqDiff, reduceCtorEq, List.getElem?_cons_zero, List.getElem?_cons_succ, Option.bind_some, undef, aBin, List.length_map]
    refine hC5 _ ?_
    try clear hC5 C5
    simp only [List.drop_succ_cons, List.drop_zero]
    refine aops_chunk 2 fun C6 hC6 => ?_
    simp only [List.take_succ_cons, List.take_zero, ↓aops, ↓aop, ↓aWant, ↓aVal, St.ev, St.get, St.put, St.new, List.getD_cons_zero, List.getD_cons_succ, List.set_cons_zero, List.set_cons_succ, AV.flat, AV.cl, AV.one, Value.oneCell', true_and, and_true, thenQ, blockQ, if_true, if_false, ↓reduceIte, Bool.false_eq_true, Bool.not_true, Bool.not_false, Nat.reduceEqDiff, reduceCtorEq, aBool, List.length_map]
    refine hC6 _ ?_
    try clear hC6 C6
    simp only [List.drop_succ_cons, List.drop_zero]
    refine aops_case 11 (by rfl) (fun hc11 => ?_) (fun hc11 => ?_)
    · simp only [List.set_cons_zero, List.set_cons_succ]
      refine aops_chunk 2 fun C7 hC7 => ?_
      simp only [List.take_succ_cons, List.take_zero, ↓aops, ↓aop, ↓aWant, ↓aVal, St.ev, St.get, St.put, St.new, List.getD_cons_zero, List.getD_cons_succ, List.set_cons_zero, List.set_cons_succ, AV.flat, AV.cl, AV.one, Value.oneCell', true_and, and_true, thenQ, blockQ, if_true, if_false, ↓reduceIte, Bool.false_eq_true, Bool.not_true, Bool.not_false, Nat.reduceEqDiff, reduceCtorEq, List.getElem?_cons_zero, List.getElem?_cons_succ, Option.bind_some, undef, List.length_map]
      refine hC7 _ ?_
      try clear hC7 C7
      simp only [List.drop_succ_cons, List.drop_zero]
      refine aops_chunk 2 fun C8 hC8 => ?_
      simp only [List.take_succ_cons, List.take_zero, ↓aops, ↓aop, ↓aWant, ↓aVal, St.ev, St.get, St.put, St.new, List.getD_cons_zero, List.getD_cons_succ, List.set_cons_zero, List.set_cons_succ, AV.flat, AV.cl, AV.one, Value.oneCell', true_and, and_true, thenQ, blockQ, if_true, if_false, ↓reduceIte, Bool.false_eq_true, Bool.not_true, Bool.not_false, Nat.reduceEqDiff, reduceCtorEq, List.getElem?_cons_zero, List.getElem?_cons_succ, Option.bind_some, undef, aField, fo91_0, Nat.zero_add, Nat.reduceAdd, Nat.add_zero, List.drop_succ_cons, List.drop_zero, List.length_map]
      refine hC8 _ ?_
      try clear hC8 C8
      simp only [List.drop_succ_cons, List.drop_zero]
      refine aops_chunk 2 fun C9 hC9 => ?_
      simp only [List.take_succ_cons, List.take_zero, ↓aops, ↓aop, ↓aWant, ↓aVal, St.ev, St.get, St.put, St.new, List.getD_cons_zero, List.getD_cons_succ, List.set_cons_zero, List.set_cons_succ, AV.flat, AV.cl, AV.one, Value.oneCell', true_and, and_true, thenQ, blockQ, if_true, if_false, ↓reduceIte, Bool.false_eq_true, Bool.not_true, Bool.not_false, Nat.reduceEqDiff, reduceCtorEq, List.getElem?_cons_zero, List.getElem?_cons_succ, Option.bind_some, undef, aLoad, ti88, getO, pack, List.length_cons, List.length_nil, Nat.reduceAdd, Nat.reduceLeDiff, Nat.zero_add, Nat.le_refl, List.drop_succ_cons, List.drop_zero, aLen, ln88, List.length_map]
      refine hC9 _ ?_
      try clear hC9 C9
      simp only [List.drop_succ_cons, List.drop_zero]
      refine aops_chunk 2 fun C10 hC10 => ?_
      simp only [List.take_succ_cons, List.take_zero, ↓aops, ↓aop, ↓aWant, ↓aVal, St.ev, St.get, St.put, St.new, List.getD_cons_zero, List.getD_cons_succ, List.set_cons_zero, List.set_cons_succ, AV.flat, AV.cl, AV.one, Value.oneCell', true_and, and_true, thenQ, blockQ, if_true, if_false, ↓reduceIte, Bool.false_eq_true, Bool.not_true, Bool.not_false, Nat.reduceEqDiff, reduceCtorEq, List.getElem?_cons_zero, List.getElem?_cons_succ, Option.bind_some, undef, aBin, aBool, List.length_map]
      refine hC10 _ ?_
      try clear hC10 C10
      simp only [List.drop_succ_cons, List.drop_zero]
      simp only [↓aops, ↓aop, ↓aWant, ↓aVal, St.ev, St.get, St.put, St.new, List.getD_cons_zero, List.getD_cons_succ, List.set_cons_zero, List.set_cons_succ, AV.flat, AV.cl, AV.one, Value.oneCell', true_and, and_true, thenQ, blockQ, if_true, if_false, ↓reduceIte, Bool.false_eq_true, Bool.not_true, Bool.not_false, Nat.reduceEqDiff, reduceCtorEq, List.length_map]
      refine hK2 _ ?_
      try clear hK2 K2
      refine AWp_ret ?_
      simp only [thenQ, blockQ, retQ, aRes, tupOf, St.get, List.getD_cons_zero, List.getD_cons_succ]
      refine ⟨_, enumO 0 (gObs (G.N) (G.V)), ⟨rfl, rfl⟩, .v _ _, gUnd (by omega) _ _, ?_, ?_, by omega⟩
      · refine Le.of_eq ?_
        refine congrArg (fun b => AV.v (.bool b)) ?_
        rw [GS.there, Bool.eq_iff_iff]
        simp only [decide_eq_true_eq, decide_eq_false_iff_not, Bool.false_eq_true, false_iff, ge_iff_le] at *
        try omega
      · first | (refine ⟨0, ?_, rfl⟩; first | rfl | (simp only [gObs, enumO, List.drop_succ_cons, List.drop_zero, List.map_append, List.map_cons, List.map_nil, List.length_append, List.length_cons, List.length_nil, GNode.cells, List.take_length, Nat.reduceAdd, Nat.zero_add]; done))
    · simp only [List.set_cons_zero, List.set_cons_succ]
      refine aops_chunk 2 fun C11 hC11 => ?_
      simp only [List.take_succ_cons, List.take_zero, ↓aops, ↓aop, ↓aWant, ↓aVal, St.ev, St.get, St.put, St.new, List.getD_cons_zero, List.getD_cons_succ, List.set_cons_zero, List.set_cons_succ, AV.flat, AV.cl, AV.one, Value.oneCell', true_and, and_true, thenQ, blockQ, if_true, if_false, ↓reduceIte, Bool.false_eq_true, Bool.not_true, Bool.not_false, Nat.reduceEqDiff, reduceCtorEq, List.getElem?_cons_zero, List.getElem?_cons_succ, Option.bind_some, undef, List.length_map]
      refine hC11 _ ?_
      try clear hC11 C11
      simp only [List.drop_succ_cons, List.drop_zero]
      refine aops_chunk 2 fun C12 hC12 => ?_
      simp only [List.take_succ_cons, List.take_zero, ↓aops, ↓aop, ↓aWant, ↓aVal, St.ev, St.get, St.put, St.new, List.getD_cons_zero, List.getD_cons_succ, List.set_cons_zero, List.set_cons_succ, AV.flat, AV.cl, AV.one, Value.oneCell', true_and, and_true, thenQ, blockQ, if_true, if_false, ↓reduceIte, Bool.false_eq_true, Bool.not_true, Bool.not_false, Nat.reduceEqDiff, reduceCtorEq, List.getElem?_cons_zero, List.getElem?_cons_succ, Option.bind_some, undef, aField, fo91_0, Nat.zero_add, Nat.reduceAdd, Nat.add_zero, List.drop_succ_cons, List.drop_zero, List.length_map]
      refine hC12 _ ?_
      try clear hC12 C12
      simp only [List.drop_succ_cons, List.drop_zero]
      refine aops_chunk 2 fun C13 hC13 => ?_
      simp only [List.take_succ_cons, List.take_zero, ↓aops, ↓aop, ↓aWant, ↓aVal, St.ev, St.get, St.put, St.new, List.getD_cons_zero, List.getD_cons_succ, List.set_cons_zero, List.set_cons_succ, AV.flat, AV.cl, AV.one, Value.oneCell', true_and, and_true, thenQ, blockQ, if_true, if_false, ↓reduceIte, Bool.false_eq_true, Bool.not_true, Bool.not_false, Nat.reduceEqDiff, reduceCtorEq, List.getElem?_cons_zero, List.getElem?_cons_succ, Option.bind_some, undef, aLoad, ti88, getO, pack, List.length_cons, List.length_nil, Nat.reduceAdd, Nat.reduceLeDiff, Nat.zero_add, Nat.le_refl, List.drop_succ_cons, List.drop_zero, aLen, ln88, List.length_map]
      refine hC13 _ ?_
      try clear hC13 C13
      simp only [List.drop_succ_cons, List.drop_zero]
      refine aops_chunk 2 fun C14 hC14 => ?_
      simp only [List.take_succ_cons, List.take_zero, ↓aops, ↓aop, ↓aWant, ↓aVal, St.ev, St.get, St.put, St.new, List.getD_cons_zero, List.getD_cons_succ, List.set_cons_zero, List.set_cons_succ, AV.flat, AV.cl, AV.one, Value.oneCell', true_and, and_true, thenQ, blockQ, if_true, if_false, ↓reduceIte, Bool.false_eq_true, Bool.not_true, Bool.not_false, Nat.reduceEqDiff, reduceCtorEq, List.getElem?_cons_zero, List.getElem?_cons_succ, Option.bind_some, undef, aBin, aBool, List.length_map]
      refine hC14 _ ?_
      try clear hC14 C14
      simp only [List.drop_succ_cons, List.drop_zero]
      simp only [↓aops, ↓aop, ↓aWant, ↓aVal, St.ev, St.get, St.put, St.new, List.getD_cons_zero, List.getD_cons_succ, List.set_cons_zero, List.set_cons_succ, AV.flat, AV.cl, AV.one, Value.oneCell', true_and, and_true, thenQ, blockQ, if_true, if_false, ↓reduceIte, Bool.false_eq_true, Bool.not_true, Bool.not_false, Nat.reduceEqDiff, reduceCtorEq, List.length_map]
      refine hK2 _ ?_
      try clear hK2 K2
      refine AWp_ret ?_
      simp only [thenQ, blockQ, retQ, aRes, tupOf, St.get, List.getD_cons_zero, List.getD_cons_succ]
      refine ⟨_, enumO 0 (gObs (G.N) (G.V)), ⟨rfl, rfl⟩, .v _ _, gUnd (by omega) _ _, ?_, ?_, by omega⟩
      · refine Le.of_eq ?_
        refine congrArg (fun b => AV.v (.bool b)) ?_
        rw [GS.there, Bool.eq_iff_iff]
        simp only [decide_eq_true_eq, decide_eq_false_iff_not, Bool.false_eq_true, false_iff, ge_iff_le] at *
        try omega
      · first | (refine ⟨0, ?_, rfl⟩; first | rfl | (simp only [gObs, enumO, List.drop_succ_cons, List.drop_zero, List.map_append, List.map_cons, List.map_nil, List.length_append, List.length_cons, List.length_nil, GNode.cells, List.take_length, Nat.reduceAdd, Nat.zero_add]; done))
  · simp only [List.set_cons_zero, List.set_cons_succ]
    cases hc7
theorem Len_calls (G : GS) : GCalls 17 [.ptr 0 0] (G.N) (G.V) (.v (.int .i64 (G.N.length : Int))) (G.N) (G.V) := by
  refine ACalls.clean (C := fun r os => r = _ ∧ os = _) ?_
  refine ACalls_intro Try.func17 (by kernel_rfl) rfl (by rw [Try.ntmps17]; simp) (fun hm => ?_)
  simp only [Try.ntmps17, Try.results17, List.length_cons, List.length_nil, Nat.reduceAdd, Nat.reduceSub, List.replicate_succ, List.replicate_zero, List.cons_append, List.nil_append]
  simp only [gObs, enumO, Nat.reduceAdd]
  refine AWp_seqK fun K1 hK1 => ?_
  refine AWp_region ?_
  simp only [↓aops, ↓aop, ↓aWant, ↓aVal, St.ev, St.get, St.put, St.new, List.getD_cons_zero, List.getD_cons_succ, List.set_cons_zero, List.set_cons_succ, AV.flat, AV.cl, AV.one, Value.oneCell', true_and, and_true, thenQ, blockQ, if_true, if_false, ↓reduceIte, Bool.false_eq_true, Bool.not_true, Bool.not_false, Nat.reduceEqDiff, reduceCtorEq, List.length_map]
  refine hK1 _ ?_
  try clear hK1 K1
  refine AWp_seqK fun K2 hK2 => ?_
  refine AWp_seqK fun K3 hK3 => ?_
  refine AWp_region ?_
  simp only [↓aops, ↓aop, ↓aWant, ↓aVal, St.ev, St.get, St.put, St.new, List.getD_cons_zero, List.getD_cons_succ, List.set_cons_zero, List.set_cons_succ, AV.flat, AV.cl, AV.one, Value.oneCell', true_and, and_true, thenQ, blockQ, if_true, if_false, ↓reduceIte, Bool.false_eq_true, Bool.not_true, Bool.not_false, Nat.reduceEqDiff, reduceCtorEq, aBin, pt25, List.length_map]
  refine hK3 _ ?_
  try clear hK3 K3
  refine AWp_cond (by rfl) (fun hb4 => ?_) (fun hb4 => ?_)
  · skip
    cases hb4
  · skip
    refine AWp_skip ?_
    simp only [thenQ, blockQ]
    refine hK2 _ ?_
    try clear hK2 K2
    refine AWp_seqK fun K4 hK4 => ?_
    refine AWp_region ?_
    refine aops_chunk 2 fun C5 hC5 => ?_
    simp only [List.take_succ_cons, List.take_zero, ↓aops, ↓aop, ↓aWant, ↓aVal, St.ev, St.get, St.put, St.new, List.getD_cons_zero, List.getD_cons_succ, List.set_cons_zero, List.set_cons_succ, AV.flat, AV.cl, AV.one, Value.oneCell', true_and, and_true, thenQ, blockQ, if_true, if_false, ↓reduceIte, Bool.false_eq_true, Bool.not_true, Bool.not_false, Nat.reduceEqDiff, reduceCtorEq, List.length_map]
    refine hC5 _ ?_
    try clear hC5 C5
    simp only [List.drop_succ_cons, List.drop_zero]
    refine aops_chunk 2 fun C6 hC6 => ?_
    simp only [List.take_succ_cons, List.take_zero, ↓aops, ↓aop, ↓aWant, ↓aVal, St.ev, St.get, St.put, St.new, List.getD_cons_zero, List.getD_cons_succ, List.set_cons_zero, List.set_cons_succ, AV.flat, AV.cl, AV.one, Value.oneCell', true_and, and_true, thenQ, blockQ, if_true, if_false, ↓reduceIte, Bool.false_eq_true, Bool.not_true, Bool.not_false, Nat.reduceEqDiff, reduceCtorEq, aField, fo91_0, Nat.zero_add, Nat.reduceAdd, Nat.add_zero, List.drop_succ_cons, List.drop_zero, aLoad, ti88, getO, pack, List.length_cons, List.length_nil, Nat.reduceLeDiff, Nat.le_refl, List.length_map]
    refine hC6 _ ?_
    try clear hC6 C6
    simp only [List.drop_succ_cons, List.drop_zero]
    simp only [↓aops, ↓aop, ↓aWant, ↓aVal, St.ev, St.get, St.put, St.new, List.getD_cons_zero, List.getD_cons_succ, List.set_cons_zero, List.set_cons_succ, AV.flat, AV.cl, AV.one, Value.oneCell', true_and, and_true, thenQ, blockQ, if_true, if_false, ↓reduceIte, Bool.false_eq_true, Bool.not_true, Bool.not_false, Nat.reduceEqDiff, reduceCtorEq, aLen, ln88, List.length_map]
    refine hK4 _ ?_
    try clear hK4 K4
    refine AWp_ret ?_
    simp only [thenQ, blockQ, retQ, aRes, tupOf, St.get, List.getD_cons_zero, List.getD_cons_succ]
    refine ⟨_, enumO 0 (gObs (G.N) (G.V)), ⟨rfl, rfl⟩, .v _ _, gUnd (by omega) _ _, ?_, ?_, by omega⟩
    · refine Le.of_eq ?_
      rfl
    · first | (refine ⟨0, ?_, rfl⟩; first | rfl | (simp only [gObs, enumO, List.drop_succ_cons, List.drop_zero, List.map_append, List.map_cons, List.map_nil, List.length_append, List.length_cons, List.length_nil, GNode.cells, List.take_length, Nat.reduceAdd, Nat.zero_add]; done))
theorem Parts_calls (G : GS) (i : Int) (hs : ∀ x ∈ G.N, x.parts.length ≤ 1099511627776) : GCalls 20 [.ptr 0 0, .v (.int .i64 i)] (G.N) (G.V) (.sl 1 ((G.parts i).map intC)) (G.N) (G.V) := by
  refine ACalls.clean (C := fun r os => r = _ ∧ os = _) ?_
  refine ACalls_intro Try.func20 (by kernel_rfl) rfl (by rw [Try.ntmps20]; simp) (fun hm => ?_)
  simp only [Try.ntmps20, Try.results20, List.length_cons, List.length_nil, Nat.reduceAdd, Nat.reduceSub, List.replicate_succ, List.replicate_zero, List.cons_append, List.nil_append]
  simp only [gObs, enumO, Nat.reduceAdd]
  refine AWp_seqK fun K1 hK1 => ?_
  refine AWp_region ?_
  simp only [↓aops, ↓aop, ↓aWant, ↓aVal, St.ev, St.get, St.put, St.new, List.getD_cons_zero, List.getD_cons_succ, List.set_cons_zero, List.set_cons_succ, AV.flat, AV.cl, AV.one, Value.oneCell', true_and, and_true, thenQ, blockQ, if_true, if_false, ↓reduceIte, Bool.false_eq_true, Bool.not_true, Bool.not_false, Nat.reduceEqDiff, reduceCtorEq, List.length_map, GNode.cells]
  refine hK1 _ ?_
  try clear hK1 K1
  refine AWp_seqK fun K2 hK2 => ?_
  refine AWp_seqK fun K3 hK3 => ?_
  refine AWp_region ?_
  refine aops_chunk 2 fun C4 hC4 => ?_
  simp only [List.take_succ_cons, List.take_zero, ↓aops, ↓aop, ↓aWant, ↓aVal, St.ev, St.get, St.put, St.new, List.getD_cons_zero, List.getD_cons_succ, List.set_cons_zero, List.set_cons_succ, AV.flat, AV.cl, AV.one, Value.oneCell', true_and, and_true, thenQ, blockQ, if_true, if_false, ↓reduceIte, Bool.false_eq_true, Bool.not_true, Bool.not_false, Nat.reduceEqDiff, reduceCtorEq, List.length_map, GNode.cells]
  refine hC4 _ ?_
  try clear hC4 C4
  simp only [List.drop_succ_cons, List.drop_zero]
  refine aops_chunk 1 fun C5 hC5 => ?_
  simp only [List.take_succ_cons, List.take_zero, ↓aops, ↓aop, ↓aWant, ↓aVal, St.ev, St.get, St.put, St.new, List.getD_cons_zero, List.getD_cons_succ, List.set_cons_zero, List.set_cons_succ, AV.flat, AV.cl, AV.one, Value.oneCell', true_and, and_true, thenQ, blockQ, if_true, if_false, ↓reduceIte, Bool.false_eq_true, Bool.not_true, Bool.not_false, Nat.reduceEqDiff, reduceCtorEq, aCallV, Array.toList_map, List.map_cons, List.map_nil, List.append_nil, List.cons_append, List.nil_append, List.length_map, GNode.cells]
  refine GCalls.at (there_calls G i) (.cons (.v _) .nil) (.v _) (i := 0) (j := 1) (k := 2) rfl rfl rfl (by decide) (by decide) (by decide) (by first | omega | (simp only; omega)) (by first | omega | (simp only; omega)) (by first | omega | (simp only; omega)) ?_
  simp only [putO, Nat.reduceEqDiff, ↓reduceIte]
  try simp only [St.put, List.set_cons_zero, List.set_cons_succ, thenQ, blockQ]
  refine hC5 _ ?_
  try clear hC5 C5
  simp only [List.drop_succ_cons, List.drop_zero]
  simp only [↓aops, ↓aop, ↓aWant, ↓aVal, St.ev, St.get, St.put, St.new, List.getD_cons_zero, List.getD_cons_succ, List.set_cons_zero, List.set_cons_succ, AV.flat, AV.cl, AV.one, Value.oneCell', true_and, and_true, thenQ, blockQ, if_true, if_false, ↓reduceIte, Bool.false_eq_true, Bool.not_true, Bool.not_false, Nat.reduceEqDiff, reduceCtorEq, aUn, List.length_map, GNode.cells]
  refine hK3 _ ?_
  try clear hK3 K3
  refine AWp_cond (by rfl) (fun hb8 => ?_) (fun hb8 => ?_)
  · skip
    have hi : ¬ (0 ≤ i ∧ i < (G.N.length : Int)) := by simp [GS.there] at hb8; omega
    refine AWp_seqK fun K6 hK6 => ?_
    refine AWp_region ?_
    simp only [↓aops, ↓aop, ↓aWant, ↓aVal, St.ev, St.get, St.put, St.new, List.getD_cons_zero, List.getD_cons_succ, List.set_cons_zero, List.set_cons_succ, AV.flat, AV.cl, AV.one, Value.oneCell', true_and, and_true, thenQ, blockQ, if_true, if_false, ↓reduceIte, Bool.false_eq_true, Bool.not_true, Bool.not_false, Nat.reduceEqDiff, reduceCtorEq, List.length_map, GNode.cells]
    refine hK6 _ ?_
    try clear hK6 K6
    refine AWp_ret ?_
    simp only [thenQ, blockQ, retQ, aRes, tupOf, St.get, List.getD_cons_zero, List.getD_cons_succ]
    rw [GS.parts_out hi]
    refine ⟨_, enumO 0 (gObs (G.N) (G.V)), ⟨rfl, rfl⟩, .data (dataInts _), gUnd (by omega) _ _, ?_, ?_, by omega⟩
    · refine Le.slNil 1
    · first | (refine ⟨0, ?_, rfl⟩; first | rfl | (simp only [gObs, enumO, List.drop_succ_cons, List.drop_zero, List.map_append, List.map_cons, List.map_nil, List.length_append, List.length_cons, List.length_nil, GNode.cells, List.take_length, Nat.reduceAdd, Nat.zero_add]; done)) | (refine ⟨1, ?_, rfl⟩; first | rfl | (simp only [gObs, enumO, List.drop_succ_cons, List.drop_zero, List.map_append, List.map_cons, List.map_nil, List.length_append, List.length_cons, List.length_nil, GNode.cells, List.take_length, Nat.reduceAdd, Nat.zero_add]; done))
  · skip
    have hi : 0 ≤ i ∧ i < (G.N.length : Int) := by simp [GS.there] at hb8; omega
    obtain ⟨hi0, hi1⟩ := hi
    obtain ⟨x, hx⟩ := lookup_at G.N i ⟨hi0, hi1⟩
    have hxl := hs x (List.mem_of_getElem? hx)
    have hb1 : x.parts.length * 8 ≤ 140737488355328 := by omega
    have hb2 : x.parts.length ≤ maxLen := by simp only [maxLen]; omega
    have hon : ((x.parts.map intC).all fun y => y.all AV.one) = true := ints_one _
    refine AWp_skip ?_
    simp only [thenQ, blockQ]
    refine hK2 _ ?_
    try clear hK2 K2
    refine AWp_seqK fun K7 hK7 => ?_
    refine AWp_region ?_
    refine aops_chunk 2 fun C8 hC8 => ?_
    simp only [List.take_succ_cons, List.take_zero, ↓aops, ↓aop, ↓aWant, ↓aVal, St.ev, St.get, St.put, St.new, List.getD_cons_zero, List.getD_cons_succ, List.set_cons_zero, List.set_cons_succ, AV.flat, AV.cl, AV.one, Value.oneCell', true_and, and_true, thenQ, blockQ, if_true, if_false, ↓reduceIte, Bool.false_eq_true, Bool.not_true, Bool.not_false, Nat.reduceEqDiff, reduceCtorEq, List.length_map, GNode.cells, hi0, hi1, hb1, hb2, hon, getD_map_cells hx]
    refine hC8 _ ?_
    try clear hC8 C8
    simp only [List.drop_succ_cons, List.drop_zero]
    refine aops_chunk 2 fun C9 hC9 => ?_
    simp only [List.take_succ_cons, List.take_zero, ↓aops, ↓aop, ↓aWant, ↓aVal, St.ev, St.get, St.put, St.new, List.getD_cons_zero, List.getD_cons_succ, List.set_cons_zero, List.set_cons_succ, AV.flat, AV.cl, AV.one, Value.oneCell', true_and, and_true, thenQ, blockQ, if_true, if_false, ↓reduceIte, Bool.false_eq_true, Bool.not_true, Bool.not_false, Nat.reduceEqDiff, reduceCtorEq, aField, fo91_0, Nat.zero_add, Nat.reduceAdd, Nat.add_zero, List.drop_succ_cons, List.drop_zero, aLoad, ti88, getO, pack, List.length_cons, List.length_nil, Nat.reduceLeDiff, Nat.le_refl, List.length_map, GNode.cells, hi0, hi1, hb1, hb2, hon, getD_map_cells hx]
    refine hC9 _ ?_
    try clear hC9 C9
    simp only [List.drop_succ_cons, List.drop_zero]
    refine aops_chunk 2 fun C10 hC10 => ?_
    simp only [List.take_succ_cons, List.take_zero, ↓aops, ↓aop, ↓aWant, ↓aVal, St.ev, St.get, St.put, St.new, List.getD_cons_zero, List.getD_cons_succ, List.set_cons_zero, List.set_cons_succ, AV.flat, AV.cl, AV.one, Value.oneCell', true_and, and_true, thenQ, blockQ, if_true, if_false, ↓reduceIte, Bool.false_eq_true, Bool.not_true, Bool.not_false, Nat.reduceEqDiff, reduceCtorEq, aIndexA, es88, Int.natCast_nonneg, Int.ofNat_lt, Int.toNat_natCast, List.length_map, Int.le_refl, Int.toNat_zero, Int.toNat_one, Int.reduceLE, GNode.cells, hi0, hi1, hb1, hb2, hon, getD_map_cells hx]
    refine hC10 _ ?_
    try clear hC10 C10
    simp only [List.drop_succ_cons, List.drop_zero]
    refine aops_chunk 2 fun C11 hC11 => ?_
    simp only [List.take_succ_cons, List.take_zero, ↓aops, ↓aop, ↓aWant, ↓aVal, St.ev, St.get, St.put, St.new, List.getD_cons_zero, List.getD_cons_succ, List.set_cons_zero, List.set_cons_succ, AV.flat, AV.cl, AV.one, Value.oneCell', true_and, and_true, thenQ, blockQ, if_true, if_false, ↓reduceIte, Bool.false_eq_true, Bool.not_true, Bool.not_false, Nat.reduceEqDiff, reduceCtorEq, aField, fo87_3, Nat.zero_add, Nat.reduceAdd, Nat.add_zero, List.drop_succ_cons, List.drop_zero, aLoad, ti28, getO, pack, List.length_cons, List.length_nil, Nat.reduceLeDiff, Nat.le_refl, List.length_map, GNode.cells, hi0, hi1, hb1, hb2, hon, getD_map_cells hx]
    refine hC11 _ ?_
    try clear hC11 C11
    simp only [List.drop_succ_cons, List.drop_zero]
    simp only [↓aops, ↓aop, ↓aWant, ↓aVal, St.ev, St.get, St.put, St.new, List.getD_cons_zero, List.getD_cons_succ, List.set_cons_zero, List.set_cons_succ, AV.flat, AV.cl, AV.one, Value.oneCell', true_and, and_true, thenQ, blockQ, if_true, if_false, ↓reduceIte, Bool.false_eq_true, Bool.not_true, Bool.not_false, Nat.reduceEqDiff, reduceCtorEq, aAppend, ei28, slOf, List.length_map, getO, putO, List.all_cons, List.all_nil, Bool.and_true, List.length_cons, List.length_nil, Nat.reduceAdd, GNode.cells, hi0, hi1, hb1, hb2, hon, getD_map_cells hx]
    refine hK7 _ ?_
    try clear hK7 K7
    refine AWp_ret ?_
    simp only [thenQ, blockQ, retQ, aRes, tupOf, St.get, List.getD_cons_zero, List.getD_cons_succ]
    rw [GS.parts_in hi0 hx]
    refine ⟨_, enumO 0 (gObs (G.N) (G.V)), ⟨rfl, rfl⟩, .data (dataInts _), gUnd (by omega) _ _, ?_, ?_, by omega⟩
    · refine Le.oslL
    · first | (refine ⟨0, ?_, rfl⟩; first | rfl | (simp only [gObs, enumO, List.drop_succ_cons, List.drop_zero, List.map_append, List.map_cons, List.map_nil, List.length_append, List.length_cons, List.length_nil, GNode.cells, List.take_length, Nat.reduceAdd, Nat.zero_add]; done)) | (refine ⟨1, ?_, rfl⟩; first | rfl | (simp only [gObs, enumO, List.drop_succ_cons, List.drop_zero, List.map_append, List.map_cons, List.map_nil, List.length_append, List.length_cons, List.length_nil, GNode.cells, List.take_length, Nat.reduceAdd, Nat.zero_add]; done))
end Go.Proofs.Ytohdoloalolpfaa
