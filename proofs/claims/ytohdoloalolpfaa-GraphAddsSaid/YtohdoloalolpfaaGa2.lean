import Derived.Test.YtohdoloalolpfaaSk
import Derived.Test.YtohdoloalolpfaaGr4
namespace Go.Proofs.Ytohdoloalolpfaa
open Go Go.RowKit
set_option maxRecDepth 100000
set_option maxHeartbeats 1000000
set_option linter.unusedSimpArgs false
set_option linter.unusedVariables false
attribute [local irreducible] aops dRun
theorem vC_fst (V : List (Int × Int)) : (V.map vC).map Prod.fst = V.map Prod.fst := by simp [vC, List.map_map, Function.comp_def]
theorem vC_64 {V : List (Int × Int)} (h : ∀ q ∈ V, is64 q.1) : ∀ q ∈ V.map vC, is64 q.1 := fun q hq => by
  obtain ⟨p, hp, rfl⟩ := List.mem_map.1 hq
  exact h p hp
theorem vGetA (V : List (Int × Int)) (n : Int) : ((vfind V n).map fun i => AV.v (.int .i64 i)).getD (.v (.int .i64 0)) = .v (.int .i64 ((vfind V n).getD 0)) := by cases vfind V n <;> rfl
theorem vIsA (V : List (Int × Int)) (n : Int) : ((vfind V n).map fun i => AV.v (.int .i64 i)).isSome = (vfind V n).isSome := by cases vfind V n <;> rfl
def kindG (G : GS) (i : Int) : Int := if 0 ≤ i ∧ i < (G.N.length : Int) then ((G.N[i.toNat]?).map GNode.k).getD 0 else 0
def nameG (G : GS) (i : Int) : Int × Bool := if kindG G i = 1 then (((G.N[i.toNat]?).map GNode.n).getD 0, true) else (0, false)
theorem kindG_out {G : GS} {i : Int} (h : ¬ (0 ≤ i ∧ i < (G.N.length : Int))) : kindG G i = 0 := by rw [kindG, if_neg h]
theorem kindG_at {G : GS} {i : Int} {x : GNode} (h : 0 ≤ i) (hx : G.N[i.toNat]? = some x) : kindG G i = x.k := by
  have := (List.getElem?_eq_some_iff.1 hx).1
  rw [kindG, if_pos ⟨h, by omega⟩, hx]; rfl
theorem nameG_at {G : GS} {i : Int} {x : GNode} (h : 0 ≤ i) (hx : G.N[i.toNat]? = some x) : nameG G i = if x.k = 1 then (x.n, true) else (0, false) := by
  rw [nameG, kindG_at h hx, hx]; rfl
theorem kindG_one {G : GS} {i : Int} (h : kindG G i = 1) : 0 ≤ i ∧ ∃ x, G.N[i.toNat]? = some x ∧ x.k = 1 := by
  unfold kindG at h
  split at h
  · rename_i h1
    refine ⟨h1.1, ?_⟩
    cases hx : G.N[i.toNat]? with
    | none => rw [hx] at h; cases h
    | some x => rw [hx] at h; exact ⟨x, rfl, h⟩
  · cases h
theorem Keys_at {m : Nat} {os : Os} {nx : Nat} {Q : AV → Os → Nat → Prop} (hq : Q (.clo 86 [.ptr nx 0]) ((nx, .cells 89 [.map m]) :: os) (nx + 1)) : ACalls Try.prog 58 [.map m] os nx Q := by
  refine ACalls_intro Try.func58 (by kernel_rfl) rfl (by rw [Try.ntmps58]; simp) (fun hm => ?_)
  simp only [Try.ntmps58, Try.results58, List.length_cons, List.length_nil, Nat.reduceAdd, Nat.reduceSub, List.replicate_succ, List.replicate_zero, List.cons_append, List.nil_append]
  refine AWp_seqK fun K1 hK1 => ?_
  refine AWp_region ?_
  refine aops_chunk 1 fun C2 hC2 => ?_
  simp only [bL, ↓aops, ↓aop, ↓aWant, ↓aVal, bS, bA, AV.flat, AV.cl, AV.one, Value.oneCell', thenQ, blockQ, noGotoQ, ↓reduceIte, Nat.reduceEqDiff, reduceCtorEq]
  refine hC2 _ ?_
  try clear hC2 C2
  simp only [bL]
  simp only [↓aops, ↓aop, ↓aWant, ↓aVal, bS, bA, AV.flat, AV.cl, AV.one, Value.oneCell', thenQ, blockQ, noGotoQ, ↓reduceIte, Nat.reduceEqDiff, reduceCtorEq]
  refine hK1 _ ?_
  try clear hK1 K1
  refine AWp_seqK fun K3 hK3 => ?_
  refine AWp_region ?_
  refine aops_chunk 1 fun C4 hC4 => ?_
  simp only [bL, ↓aops, ↓aop, ↓aWant, ↓aVal, bS, bA, AV.flat, AV.cl, AV.one, Value.oneCell', thenQ, blockQ, noGotoQ, ↓reduceIte, Nat.reduceEqDiff, reduceCtorEq]
  refine hC4 _ ?_
  try clear hC4 C4
  simp only [bL]
  simp only [↓aops, ↓aop, ↓aWant, ↓aVal, bS, bA, AV.flat, AV.cl, AV.one, Value.oneCell', thenQ, blockQ, noGotoQ, ↓reduceIte, Nat.reduceEqDiff, reduceCtorEq]
  refine hK3 _ ?_
  try clear hK3 K3
  refine AWp_ret ?_
  try simp only [thenQ, blockQ, noGotoQ, retQ, aRes, tupOf, bS, bA]
  exact hq
theorem GVars_calls (G : GS) (hw : ∀ q ∈ G.V, is64 q.1) (hl : G.V.length ≤ 1099511627776) : GCalls 22 [.ptr 0 0] (G.N) (G.V) (.sl 1 ((sortI (G.V.map Prod.fst)).map intC)) (G.N) (G.V) := by
  refine ACalls.clean (C := fun r os => r = _ ∧ os = _) ?_
  refine ACalls_intro Try.func22 (by kernel_rfl) rfl (by rw [Try.ntmps22]; simp) (fun hm => ?_)
  simp only [Try.ntmps22, Try.results22, List.length_cons, List.length_nil, Nat.reduceAdd, Nat.reduceSub, List.replicate_succ, List.replicate_zero, List.cons_append, List.nil_append]
  simp only [gObs, enumO, Nat.reduceAdd]
  refine AWp_seqK fun K1 hK1 => ?_
  refine AWp_region ?_
  simp only [↓aops, ↓aop, ↓aWant, ↓aVal, bS, bA, AV.flat, AV.cl, AV.one, Value.oneCell', thenQ, blockQ, noGotoQ, ↓reduceIte, Nat.reduceEqDiff, reduceCtorEq]
  refine hK1 _ ?_
  try clear hK1 K1
  refine AWp_seqK fun K2 hK2 => ?_
  refine AWp_seqK fun K3 hK3 => ?_
  refine AWp_region ?_
  refine aops_chunk 1 fun C4 hC4 => ?_
  simp only [bL, ↓aops, ↓aop, ↓aWant, ↓aVal, bS, bA, AV.flat, AV.cl, AV.one, Value.oneCell', thenQ, blockQ, noGotoQ, ↓reduceIte, Nat.reduceEqDiff, reduceCtorEq]
  refine hC4 _ ?_
  try clear hC4 C4
  simp only [bL]
  simp only [↓aops, ↓aop, ↓aWant, ↓aVal, bS, bA, AV.flat, AV.cl, AV.one, Value.oneCell', thenQ, blockQ, noGotoQ, ↓reduceIte, Nat.reduceEqDiff, reduceCtorEq, aBin, pt25]
  refine hK3 _ ?_
  try clear hK3 K3
  refine AWp_cond rfl (fun hb4 => ?_) (fun hb4 => ?_)
  · skip
    cases hb4
  · skip
    refine AWp_skip ?_
    try simp only [thenQ, blockQ, noGotoQ]
    refine hK2 _ ?_
    try clear hK2 K2
    refine AWp_seqK fun K5 hK5 => ?_
    refine AWp_region ?_
    refine aops_chunk 1 fun C6 hC6 => ?_
    simp only [bL, ↓aops, ↓aop, ↓aWant, ↓aVal, bS, bA, AV.flat, AV.cl, AV.one, Value.oneCell', thenQ, blockQ, noGotoQ, ↓reduceIte, Nat.reduceEqDiff, reduceCtorEq]
    refine hC6 _ ?_
    try clear hC6 C6
    simp only [bL]
    refine aops_chunk 1 fun C7 hC7 => ?_
    simp only [bL, ↓aops, ↓aop, ↓aWant, ↓aVal, bS, bA, AV.flat, AV.cl, AV.one, Value.oneCell', thenQ, blockQ, noGotoQ, ↓reduceIte, Nat.reduceEqDiff, reduceCtorEq]
    refine hC7 _ ?_
    try clear hC7 C7
    simp only [bL]
    refine aops_chunk 1 fun C8 hC8 => ?_
    simp only [bL, ↓aops, ↓aop, ↓aWant, ↓aVal, bS, bA, AV.flat, AV.cl, AV.one, Value.oneCell', thenQ, blockQ, noGotoQ, ↓reduceIte, Nat.reduceEqDiff, reduceCtorEq, aField, fo91_1, Nat.reduceAdd]
    refine hC8 _ ?_
    try clear hC8 C8
    simp only [bL]
    refine aops_chunk 1 fun C9 hC9 => ?_
    simp only [bL, ↓aops, ↓aop, ↓aWant, ↓aVal, bS, bA, AV.flat, AV.cl, AV.one, Value.oneCell', thenQ, blockQ, noGotoQ, ↓reduceIte, Nat.reduceEqDiff, reduceCtorEq, aLoad, ti89, getO, pack, Nat.reduceAdd, Nat.reduceLeDiff]
    refine hC9 _ ?_
    try clear hC9 C9
    simp only [bL]
    refine aops_chunk 1 fun C10 hC10 => ?_
    simp only [bL, ↓aops, ↓aop, ↓aWant, ↓aVal, bS, bA, AV.flat, AV.cl, AV.one, Value.oneCell', thenQ, blockQ, noGotoQ, ↓reduceIte, Nat.reduceEqDiff, reduceCtorEq, aCallV]
    refine Keys_at ?_
    try simp only [bS, bA, thenQ, blockQ, noGotoQ]
    refine hC10 _ ?_
    try clear hC10 C10
    simp only [bL]
    refine aops_chunk 1 fun C11 hC11 => ?_
    simp only [bL, ↓aops, ↓aop, ↓aWant, ↓aVal, bS, bA, AV.flat, AV.cl, AV.one, Value.oneCell', thenQ, blockQ, noGotoQ, ↓reduceIte, Nat.reduceEqDiff, reduceCtorEq, aCallV]
    refine Sorted_calls (p := 3) (m := 2) (es := G.V.map vC) rfl rfl (vC_64 hw) (by rw [List.length_map]; exact hl) ?_
    rw [vC_fst]
    try simp only [bS, bA, thenQ, blockQ, noGotoQ]
    refine hC11 _ ?_
    try clear hC11 C11
    simp only [bL]
    simp only [↓aops, ↓aop, ↓aWant, ↓aVal, bS, bA, AV.flat, AV.cl, AV.one, Value.oneCell', thenQ, blockQ, noGotoQ, ↓reduceIte, Nat.reduceEqDiff, reduceCtorEq]
    refine hK5 _ ?_
    try clear hK5 K5
    refine AWp_ret ?_
    try simp only [thenQ, blockQ, noGotoQ, retQ, aRes, tupOf, bS, bA]
    refine ⟨_, enumO 0 (gObs (G.N) (G.V)), ⟨rfl, rfl⟩, Und.data (dataInts _), gUnd (by omega) _ _, ?_, ?_, by omega⟩
    · refine Le.of_eq ?_
      rfl
    · first | (refine ⟨1, ?_, rfl⟩; first | rfl | (simp only [gObs, enumO, List.drop_succ_cons, List.drop_zero, List.map_append, List.map_cons, List.map_nil, List.length_append, List.length_cons, List.length_nil, GNode.cells, List.take_length, Nat.reduceAdd, Nat.zero_add]; done))
theorem KindA_calls (G : GS) (i : Int) : GCalls 25 [.ptr 0 0, .v (.int .i64 i)] (G.N) (G.V) (.v (.int .i64 (kindG G i))) (G.N) (G.V) := by
  refine ACalls.clean (C := fun r os => r = _ ∧ os = _) ?_
  refine ACalls_intro Try.func25 (by kernel_rfl) rfl (by rw [Try.ntmps25]; simp) (fun hm => ?_)
  simp only [Try.ntmps25, Try.results25, List.length_cons, List.length_nil, Nat.reduceAdd, Nat.reduceSub, List.replicate_succ, List.replicate_zero, List.cons_append, List.nil_append]
  simp only [gObs, enumO, Nat.reduceAdd]
  refine AWp_seqK fun K1 hK1 => ?_
  refine AWp_region ?_
  simp only [↓aops, ↓aop, ↓aWant, ↓aVal, bS, bA, AV.flat, AV.cl, AV.one, Value.oneCell', thenQ, blockQ, noGotoQ, ↓reduceIte, Nat.reduceEqDiff, reduceCtorEq, List.length_map, GNode.cells]
  refine hK1 _ ?_
  try clear hK1 K1
  refine AWp_seqK fun K2 hK2 => ?_
  refine AWp_seqK fun K3 hK3 => ?_
  refine AWp_region ?_
  refine aops_chunk 1 fun C4 hC4 => ?_
  simp only [bL, ↓aops, ↓aop, ↓aWant, ↓aVal, bS, bA, AV.flat, AV.cl, AV.one, Value.oneCell', thenQ, blockQ, noGotoQ, ↓reduceIte, Nat.reduceEqDiff, reduceCtorEq, List.length_map, GNode.cells]
  refine hC4 _ ?_
  try clear hC4 C4
  simp only [bL]
  refine aops_chunk 1 fun C5 hC5 => ?_
  simp only [bL, ↓aops, ↓aop, ↓aWant, ↓aVal, bS, bA, AV.flat, AV.cl, AV.one, Value.oneCell', thenQ, blockQ, noGotoQ, ↓reduceIte, Nat.reduceEqDiff, reduceCtorEq, List.length_map, GNode.cells]
  refine hC5 _ ?_
  try clear hC5 C5
  simp only [bL]
  refine aops_chunk 1 fun C6 hC6 => ?_
  simp only [bL, ↓aops, ↓aop, ↓aWant, ↓aVal, bS, bA, AV.flat, AV.cl, AV.one, Value.oneCell', thenQ, blockQ, noGotoQ, ↓reduceIte, Nat.reduceEqDiff, reduceCtorEq, aCallV, List.length_map, GNode.cells]
  refine GCalls.at (there_calls G i) (.cons (.v _) .nil) (.v _) (i := 0) (j := 1) (k := 2) rfl rfl rfl (by decide) (by decide) (by decide) (by first | omega | (simp only; omega)) (by first | omega | (simp only; omega)) (by first | omega | (simp only; omega)) ?_
  simp only [putO, Nat.reduceEqDiff, ↓reduceIte]
  try simp only [bS, bA, thenQ, blockQ, noGotoQ]
  refine hC6 _ ?_
  try clear hC6 C6
  simp only [bL]
  simp only [↓aops, ↓aop, ↓aWant, ↓aVal, bS, bA, AV.flat, AV.cl, AV.one, Value.oneCell', thenQ, blockQ, noGotoQ, ↓reduceIte, Nat.reduceEqDiff, reduceCtorEq, aUn, List.length_map, GNode.cells]
  refine hK3 _ ?_
  try clear hK3 K3
  refine AWp_cond rfl (fun hb8 => ?_) (fun hb8 => ?_)
  · skip
    have hno : ¬ (0 ≤ i ∧ i < (G.N.length : Int)) := by (have h9 := hb8; simp [GS.there] at h9; omega)
    have hres := kindG_out hno
    refine AWp_seqK fun K7 hK7 => ?_
    refine AWp_region ?_
    simp only [↓aops, ↓aop, ↓aWant, ↓aVal, bS, bA, AV.flat, AV.cl, AV.one, Value.oneCell', thenQ, blockQ, noGotoQ, ↓reduceIte, Nat.reduceEqDiff, reduceCtorEq, List.length_map, GNode.cells]
    refine hK7 _ ?_
    try clear hK7 K7
    refine AWp_ret ?_
    try simp only [thenQ, blockQ, noGotoQ, retQ, aRes, tupOf, bS, bA]
    refine ⟨_, enumO 0 (gObs (G.N) (G.V)), ⟨rfl, rfl⟩, .v _ _, gUnd (by omega) _ _, ?_, ?_, by omega⟩
    · refine Le.of_eq ?_
      rw [hres]
    · first | (refine ⟨0, ?_, rfl⟩; first | rfl | (simp only [gObs, enumO, List.drop_succ_cons, List.drop_zero, List.map_append, List.map_cons, List.map_nil, List.length_append, List.length_cons, List.length_nil, GNode.cells, List.take_length, Nat.reduceAdd, Nat.zero_add]; done))
  · skip
    have hi : 0 ≤ i ∧ i < (G.N.length : Int) := by (have h9 := hb8; simp [GS.there] at h9; omega)
    obtain ⟨x, hx⟩ : ∃ x, G.N[i.toNat]? = some x := ⟨_, List.getElem?_eq_getElem (by omega)⟩
    have hres := kindG_at hi.1 hx
    have hi1 := hi.1
    have hi2 := hi.2
    refine AWp_skip ?_
    try simp only [thenQ, blockQ, noGotoQ]
    refine hK2 _ ?_
    try clear hK2 K2
    refine AWp_seqK fun K8 hK8 => ?_
    refine AWp_region ?_
    refine aops_chunk 1 fun C9 hC9 => ?_
    simp only [bL, ↓aops, ↓aop, ↓aWant, ↓aVal, bS, bA, AV.flat, AV.cl, AV.one, Value.oneCell', thenQ, blockQ, noGotoQ, ↓reduceIte, Nat.reduceEqDiff, reduceCtorEq, List.length_map, GNode.cells, hi1, hi2, getD_map_cells hx]
    refine hC9 _ ?_
    try clear hC9 C9
    simp only [bL]
    refine aops_chunk 1 fun C10 hC10 => ?_
    simp only [bL, ↓aops, ↓aop, ↓aWant, ↓aVal, bS, bA, AV.flat, AV.cl, AV.one, Value.oneCell', thenQ, blockQ, noGotoQ, ↓reduceIte, Nat.reduceEqDiff, reduceCtorEq, List.length_map, GNode.cells, hi1, hi2, getD_map_cells hx]
    refine hC10 _ ?_
    try clear hC10 C10
    simp only [bL]
    refine aops_chunk 1 fun C11 hC11 => ?_
    simp only [bL, ↓aops, ↓aop, ↓aWant, ↓aVal, bS, bA, AV.flat, AV.cl, AV.one, Value.oneCell', thenQ, blockQ, noGotoQ, ↓reduceIte, Nat.reduceEqDiff, reduceCtorEq, aField, fo91_0, Nat.reduceAdd, List.length_map, GNode.cells, hi1, hi2, getD_map_cells hx]
    refine hC11 _ ?_
    try clear hC11 C11
    simp only [bL]
    refine aops_chunk 1 fun C12 hC12 => ?_
    simp only [bL, ↓aops, ↓aop, ↓aWant, ↓aVal, bS, bA, AV.flat, AV.cl, AV.one, Value.oneCell', thenQ, blockQ, noGotoQ, ↓reduceIte, Nat.reduceEqDiff, reduceCtorEq, aLoad, ti88, getO, pack, Nat.reduceAdd, Nat.reduceLeDiff, List.length_map, GNode.cells, hi1, hi2, getD_map_cells hx]
    refine hC12 _ ?_
    try clear hC12 C12
    simp only [bL]
    refine aops_chunk 1 fun C13 hC13 => ?_
    simp only [bL, ↓aops, ↓aop, ↓aWant, ↓aVal, bS, bA, AV.flat, AV.cl, AV.one, Value.oneCell', thenQ, blockQ, noGotoQ, ↓reduceIte, Nat.reduceEqDiff, reduceCtorEq, List.length_map, GNode.cells, hi1, hi2, getD_map_cells hx]
    refine hC13 _ ?_
    try clear hC13 C13
    simp only [bL]
    refine aops_chunk 1 fun C14 hC14 => ?_
    simp only [bL, ↓aops, ↓aop, ↓aWant, ↓aVal, bS, bA, AV.flat, AV.cl, AV.one, Value.oneCell', thenQ, blockQ, noGotoQ, ↓reduceIte, Nat.reduceEqDiff, reduceCtorEq, getO, aIndexA, es88, Int.natCast_nonneg, Int.ofNat_lt, Int.toNat_natCast, List.length_map, Int.le_refl, Int.toNat_zero, Int.toNat_one, Int.reduceLE, GNode.cells, hi1, hi2, getD_map_cells hx]
    refine hC14 _ ?_
    try clear hC14 C14
    simp only [bL]
    refine aops_chunk 1 fun C15 hC15 => ?_
    simp only [bL, ↓aops, ↓aop, ↓aWant, ↓aVal, bS, bA, AV.flat, AV.cl, AV.one, Value.oneCell', thenQ, blockQ, noGotoQ, ↓reduceIte, Nat.reduceEqDiff, reduceCtorEq, aField, fo87_0, Nat.reduceAdd, List.length_map, GNode.cells, hi1, hi2, getD_map_cells hx]
    refine hC15 _ ?_
    try clear hC15 C15
    simp only [bL]
    refine aops_chunk 1 fun C16 hC16 => ?_
    simp only [bL, ↓aops, ↓aop, ↓aWant, ↓aVal, bS, bA, AV.flat, AV.cl, AV.one, Value.oneCell', thenQ, blockQ, noGotoQ, ↓reduceIte, Nat.reduceEqDiff, reduceCtorEq, aLoad, ti3, getO, pack, Nat.reduceAdd, Nat.reduceLeDiff, List.length_map, GNode.cells, hi1, hi2, getD_map_cells hx]
    refine hC16 _ ?_
    try clear hC16 C16
    simp only [bL]
    simp only [↓aops, ↓aop, ↓aWant, ↓aVal, bS, bA, AV.flat, AV.cl, AV.one, Value.oneCell', thenQ, blockQ, noGotoQ, ↓reduceIte, Nat.reduceEqDiff, reduceCtorEq, List.length_map, GNode.cells, hi1, hi2, getD_map_cells hx]
    refine hK8 _ ?_
    try clear hK8 K8
    refine AWp_ret ?_
    try simp only [thenQ, blockQ, noGotoQ, retQ, aRes, tupOf, bS, bA]
    refine ⟨_, enumO 0 (gObs (G.N) (G.V)), ⟨rfl, rfl⟩, .v _ _, gUnd (by omega) _ _, ?_, ?_, by omega⟩
    · refine Le.of_eq ?_
      rw [hres]
    · first | (refine ⟨0, ?_, rfl⟩; first | rfl | (simp only [gObs, enumO, List.drop_succ_cons, List.drop_zero, List.map_append, List.map_cons, List.map_nil, List.length_append, List.length_cons, List.length_nil, GNode.cells, List.take_length, Nat.reduceAdd, Nat.zero_add]; done))
theorem Name_calls (G : GS) (i : Int) : GCalls 24 [.ptr 0 0, .v (.int .i64 i)] (G.N) (G.V) (.tup [.v (.int .i64 (nameG G i).1), .v (.bool (nameG G i).2)]) (G.N) (G.V) := by
  refine ACalls.clean (C := fun r os => r = _ ∧ os = _) ?_
  refine ACalls_intro Try.func24 (by kernel_rfl) rfl (by rw [Try.ntmps24]; simp) (fun hm => ?_)
  simp only [Try.ntmps24, Try.results24, List.length_cons, List.length_nil, Nat.reduceAdd, Nat.reduceSub, List.replicate_succ, List.replicate_zero, List.cons_append, List.nil_append]
  simp only [gObs, enumO, Nat.reduceAdd]
  refine AWp_seqK fun K1 hK1 => ?_
  refine AWp_region ?_
  refine aops_chunk 1 fun C2 hC2 => ?_
  simp only [bL, ↓aops, ↓aop, ↓aWant, ↓aVal, bS, bA, AV.flat, AV.cl, AV.one, Value.oneCell', thenQ, blockQ, noGotoQ, ↓reduceIte, Nat.reduceEqDiff, reduceCtorEq, List.length_map, GNode.cells]
  refine hC2 _ ?_
  try clear hC2 C2
  simp only [bL]
  simp only [↓aops, ↓aop, ↓aWant, ↓aVal, bS, bA, AV.flat, AV.cl, AV.one, Value.oneCell', thenQ, blockQ, noGotoQ, ↓reduceIte, Nat.reduceEqDiff, reduceCtorEq, List.length_map, GNode.cells]
  refine hK1 _ ?_
  try clear hK1 K1
  refine AWp_seqK fun K3 hK3 => ?_
  refine AWp_seqK fun K4 hK4 => ?_
  refine AWp_region ?_
  refine aops_chunk 1 fun C5 hC5 => ?_
  simp only [bL, ↓aops, ↓aop, ↓aWant, ↓aVal, bS, bA, AV.flat, AV.cl, AV.one, Value.oneCell', thenQ, blockQ, noGotoQ, ↓reduceIte, Nat.reduceEqDiff, reduceCtorEq, List.length_map, GNode.cells]
  refine hC5 _ ?_
  try clear hC5 C5
  simp only [bL]
  refine aops_chunk 1 fun C6 hC6 => ?_
  simp only [bL, ↓aops, ↓aop, ↓aWant, ↓aVal, bS, bA, AV.flat, AV.cl, AV.one, Value.oneCell', thenQ, blockQ, noGotoQ, ↓reduceIte, Nat.reduceEqDiff, reduceCtorEq, List.length_map, GNode.cells]
  refine hC6 _ ?_
  try clear hC6 C6
  simp only [bL]
  refine aops_chunk 1 fun C7 hC7 => ?_
  simp only [bL, ↓aops, ↓aop, ↓aWant, ↓aVal, bS, bA, AV.flat, AV.cl, AV.one, Value.oneCell', thenQ, blockQ, noGotoQ, ↓reduceIte, Nat.reduceEqDiff, reduceCtorEq, aCallV, List.length_map, GNode.cells]
  refine GCalls.at (KindA_calls G i) (.cons (.v _) .nil) (.v _) (i := 0) (j := 1) (k := 2) rfl rfl rfl (by decide) (by decide) (by decide) (by first | omega | (simp only; omega)) (by first | omega | (simp only; omega)) (by first | omega | (simp only; omega)) ?_
  simp only [putO, Nat.reduceEqDiff, ↓reduceIte]
  try simp only [bS, bA, thenQ, blockQ, noGotoQ]
  refine hC7 _ ?_
  try clear hC7 C7
  simp only [bL]
  simp only [↓aops, ↓aop, ↓aWant, ↓aVal, bS, bA, AV.flat, AV.cl, AV.one, Value.oneCell', thenQ, blockQ, noGotoQ, ↓reduceIte, Nat.reduceEqDiff, reduceCtorEq, aBin, List.length_map, GNode.cells]
  refine hK4 _ ?_
  try clear hK4 K4
  refine AWp_cond rfl (fun hb9 => ?_) (fun hb9 => ?_)
  · skip
    have hno : ¬ kindG G i = 1 := by simpa using hb9
    have hres : nameG G i = (0, false) := by rw [nameG, if_neg hno]
    refine AWp_seqK fun K8 hK8 => ?_
    refine AWp_region ?_
    refine aops_chunk 1 fun C9 hC9 => ?_
    simp only [bL, ↓aops, ↓aop, ↓aWant, ↓aVal, bS, bA, AV.flat, AV.cl, AV.one, Value.oneCell', thenQ, blockQ, noGotoQ, ↓reduceIte, Nat.reduceEqDiff, reduceCtorEq, List.length_map, GNode.cells]
    refine hC9 _ ?_
    try clear hC9 C9
    simp only [bL]
    simp only [↓aops, ↓aop, ↓aWant, ↓aVal, bS, bA, AV.flat, AV.cl, AV.one, Value.oneCell', thenQ, blockQ, noGotoQ, ↓reduceIte, Nat.reduceEqDiff, reduceCtorEq, List.length_map, GNode.cells]
    refine hK8 _ ?_
    try clear hK8 K8
    refine AWp_ret ?_
    try simp only [thenQ, blockQ, noGotoQ, retQ, aRes, tupOf, bS, bA]
    refine ⟨_, enumO 0 (gObs (G.N) (G.V)), ⟨rfl, rfl⟩, .tup ⟨.v _ _, .v _ _, trivial⟩, gUnd (by omega) _ _, ?_, ?_, by omega⟩
    · refine Le.of_eq ?_
      rw [hres]
    · first | (refine ⟨0, ?_, rfl⟩; first | rfl | (simp only [gObs, enumO, List.drop_succ_cons, List.drop_zero, List.map_append, List.map_cons, List.map_nil, List.length_append, List.length_cons, List.length_nil, GNode.cells, List.take_length, Nat.reduceAdd, Nat.zero_add]; done))
  · skip
    have hk1 : kindG G i = 1 := by simpa using hb9
    obtain ⟨hi1, x, hx, hxk⟩ := kindG_one hk1
    have hi2 : i < (G.N.length : Int) := by have := (List.getElem?_eq_some_iff.1 hx).1; omega
    have hres : nameG G i = (x.n, true) := by rw [nameG, if_pos hk1, hx]; rfl
    refine AWp_skip ?_
    try simp only [thenQ, blockQ, noGotoQ]
    refine hK3 _ ?_
    try clear hK3 K3
    refine AWp_seqK fun K10 hK10 => ?_
    refine AWp_region ?_
    refine aops_chunk 1 fun C11 hC11 => ?_
    simp only [bL, ↓aops, ↓aop, ↓aWant, ↓aVal, bS, bA, AV.flat, AV.cl, AV.one, Value.oneCell', thenQ, blockQ, noGotoQ, ↓reduceIte, Nat.reduceEqDiff, reduceCtorEq, List.length_map, GNode.cells, hi1, hi2, getD_map_cells hx]
    refine hC11 _ ?_
    try clear hC11 C11
    simp only [bL]
    refine aops_chunk 1 fun C12 hC12 => ?_
    simp only [bL, ↓aops, ↓aop, ↓aWant, ↓aVal, bS, bA, AV.flat, AV.cl, AV.one, Value.oneCell', thenQ, blockQ, noGotoQ, ↓reduceIte, Nat.reduceEqDiff, reduceCtorEq, List.length_map, GNode.cells, hi1, hi2, getD_map_cells hx]
    refine hC12 _ ?_
    try clear hC12 C12
    simp only [bL]
    refine aops_chunk 1 fun C13 hC13 => ?_
    simp only [bL, ↓aops, ↓aop, ↓aWant, ↓aVal, bS, bA, AV.flat, AV.cl, AV.one, Value.oneCell', thenQ, blockQ, noGotoQ, ↓reduceIte, Nat.reduceEqDiff, reduceCtorEq, aField, fo91_0, Nat.reduceAdd, List.length_map, GNode.cells, hi1, hi2, getD_map_cells hx]
    refine hC13 _ ?_
    try clear hC13 C13
    simp only [bL]
    refine aops_chunk 1 fun C14 hC14 => ?_
    simp only [bL, ↓aops, ↓aop, ↓aWant, ↓aVal, bS, bA, AV.flat, AV.cl, AV.one, Value.oneCell', thenQ, blockQ, noGotoQ, ↓reduceIte, Nat.reduceEqDiff, reduceCtorEq, aLoad, ti88, getO, pack, Nat.reduceAdd, Nat.reduceLeDiff, List.length_map, GNode.cells, hi1, hi2, getD_map_cells hx]
    refine hC14 _ ?_
    try clear hC14 C14
    simp only [bL]
    refine aops_chunk 1 fun C15 hC15 => ?_
    simp only [bL, ↓aops, ↓aop, ↓aWant, ↓aVal, bS, bA, AV.flat, AV.cl, AV.one, Value.oneCell', thenQ, blockQ, noGotoQ, ↓reduceIte, Nat.reduceEqDiff, reduceCtorEq, List.length_map, GNode.cells, hi1, hi2, getD_map_cells hx]
    refine hC15 _ ?_
    try clear hC15 C15
    simp only [bL]
    refine aops_chunk 1 fun C16 hC16 => ?_
    simp only [bL, ↓aops, ↓aop, ↓aWant, ↓aVal, bS, bA, AV.flat, AV.cl, AV.one, Value.oneCell', thenQ, blockQ, noGotoQ, ↓reduceIte, Nat.reduceEqDiff, reduceCtorEq, getO, aIndexA, es88, Int.natCast_nonneg, Int.ofNat_lt, Int.toNat_natCast, List.length_map, Int.le_refl, Int.toNat_zero, Int.toNat_one, Int.reduceLE, GNode.cells, hi1, hi2, getD_map_cells hx]
    refine hC16 _ ?_
    try clear hC16 C16
    simp only [bL]
    refine aops_chunk 1 fun C17 hC17 => ?_
    simp only [bL, ↓aops, ↓aop, ↓aWant, ↓aVal, bS, bA, AV.flat, AV.cl, AV.one, Value.oneCell', thenQ, blockQ, noGotoQ, ↓reduceIte, Nat.reduceEqDiff, reduceCtorEq, aField, fo87_1, Nat.reduceAdd, List.length_map, GNode.cells, hi1, hi2, getD_map_cells hx]
    refine hC17 _ ?_
    try clear hC17 C17
    simp only [bL]
    refine aops_chunk 1 fun C18 hC18 => ?_
    simp only [bL, ↓aops, ↓aop, ↓aWant, ↓aVal, bS, bA, AV.flat, AV.cl, AV.one, Value.oneCell', thenQ, blockQ, noGotoQ, ↓reduceIte, Nat.reduceEqDiff, reduceCtorEq, aLoad, ti3, getO, pack, Nat.reduceAdd, Nat.reduceLeDiff, List.length_map, GNode.cells, hi1, hi2, getD_map_cells hx]
    refine hC18 _ ?_
    try clear hC18 C18
    simp only [bL]
    refine aops_chunk 1 fun C19 hC19 => ?_
    simp only [bL, ↓aops, ↓aop, ↓aWant, ↓aVal, bS, bA, AV.flat, AV.cl, AV.one, Value.oneCell', thenQ, blockQ, noGotoQ, ↓reduceIte, Nat.reduceEqDiff, reduceCtorEq, List.length_map, GNode.cells, hi1, hi2, getD_map_cells hx]
    refine hC19 _ ?_
    try clear hC19 C19
    simp only [bL]
    simp only [↓aops, ↓aop, ↓aWant, ↓aVal, bS, bA, AV.flat, AV.cl, AV.one, Value.oneCell', thenQ, blockQ, noGotoQ, ↓reduceIte, Nat.reduceEqDiff, reduceCtorEq, List.length_map, GNode.cells, hi1, hi2, getD_map_cells hx]
    refine hK10 _ ?_
    try clear hK10 K10
    refine AWp_ret ?_
    try simp only [thenQ, blockQ, noGotoQ, retQ, aRes, tupOf, bS, bA]
    refine ⟨_, enumO 0 (gObs (G.N) (G.V)), ⟨rfl, rfl⟩, .tup ⟨.v _ _, .v _ _, trivial⟩, gUnd (by omega) _ _, ?_, ?_, by omega⟩
    · refine Le.of_eq ?_
      rw [hres]
    · first | (refine ⟨0, ?_, rfl⟩; first | rfl | (simp only [gObs, enumO, List.drop_succ_cons, List.drop_zero, List.map_append, List.map_cons, List.map_nil, List.length_append, List.length_cons, List.length_nil, GNode.cells, List.take_length, Nat.reduceAdd, Nat.zero_add]; done))
theorem GVarA_calls (G : GS) (n : Int) : GCalls 26 [.ptr 0 0, .v (.int .i64 n)] (G.N) (G.V) (.tup [.v (.int .i64 ((vfind G.V n).getD 0)), .v (.bool (vfind G.V n).isSome)]) (G.N) (G.V) := by
  refine ACalls.clean (C := fun r os => r = _ ∧ os = _) ?_
  refine ACalls_intro Try.func26 (by kernel_rfl) rfl (by rw [Try.ntmps26]; simp) (fun hm => ?_)
  simp only [Try.ntmps26, Try.results26, List.length_cons, List.length_nil, Nat.reduceAdd, Nat.reduceSub, List.replicate_succ, List.replicate_zero, List.cons_append, List.nil_append]
  simp only [gObs, enumO, Nat.reduceAdd]
  refine AWp_seqK fun K1 hK1 => ?_
  refine AWp_region ?_
  refine aops_chunk 1 fun C2 hC2 => ?_
  simp only [bL, ↓aops, ↓aop, ↓aWant, ↓aVal, bS, bA, AV.flat, AV.cl, AV.one, Value.oneCell', thenQ, blockQ, noGotoQ, ↓reduceIte, Nat.reduceEqDiff, reduceCtorEq, aFind_vC, vGetA, vIsA]
  refine hC2 _ ?_
  try clear hC2 C2
  simp only [bL]
  simp only [↓aops, ↓aop, ↓aWant, ↓aVal, bS, bA, AV.flat, AV.cl, AV.one, Value.oneCell', thenQ, blockQ, noGotoQ, ↓reduceIte, Nat.reduceEqDiff, reduceCtorEq, aFind_vC, vGetA, vIsA]
  refine hK1 _ ?_
  try clear hK1 K1
  refine AWp_seqK fun K3 hK3 => ?_
  refine AWp_seqK fun K4 hK4 => ?_
  refine AWp_region ?_
  refine aops_chunk 1 fun C5 hC5 => ?_
  simp only [bL, ↓aops, ↓aop, ↓aWant, ↓aVal, bS, bA, AV.flat, AV.cl, AV.one, Value.oneCell', thenQ, blockQ, noGotoQ, ↓reduceIte, Nat.reduceEqDiff, reduceCtorEq, aFind_vC, vGetA, vIsA]
  refine hC5 _ ?_
  try clear hC5 C5
  simp only [bL]
  simp only [↓aops, ↓aop, ↓aWant, ↓aVal, bS, bA, AV.flat, AV.cl, AV.one, Value.oneCell', thenQ, blockQ, noGotoQ, ↓reduceIte, Nat.reduceEqDiff, reduceCtorEq, aBin, pt25, aFind_vC, vGetA, vIsA]
  refine hK4 _ ?_
  try clear hK4 K4
  refine AWp_cond rfl (fun hb9 => ?_) (fun hb9 => ?_)
  · skip
    cases hb9
  · skip
    refine AWp_skip ?_
    try simp only [thenQ, blockQ, noGotoQ]
    refine hK3 _ ?_
    try clear hK3 K3
    refine AWp_seqK fun K6 hK6 => ?_
    refine AWp_region ?_
    refine aops_chunk 1 fun C7 hC7 => ?_
    simp only [bL, ↓aops, ↓aop, ↓aWant, ↓aVal, bS, bA, AV.flat, AV.cl, AV.one, Value.oneCell', thenQ, blockQ, noGotoQ, ↓reduceIte, Nat.reduceEqDiff, reduceCtorEq, aFind_vC, vGetA, vIsA]
    refine hC7 _ ?_
    try clear hC7 C7
    simp only [bL]
    refine aops_chunk 1 fun C8 hC8 => ?_
    simp only [bL, ↓aops, ↓aop, ↓aWant, ↓aVal, bS, bA, AV.flat, AV.cl, AV.one, Value.oneCell', thenQ, blockQ, noGotoQ, ↓reduceIte, Nat.reduceEqDiff, reduceCtorEq, aFind_vC, vGetA, vIsA]
    refine hC8 _ ?_
    try clear hC8 C8
    simp only [bL]
    refine aops_chunk 1 fun C9 hC9 => ?_
    simp only [bL, ↓aops, ↓aop, ↓aWant, ↓aVal, bS, bA, AV.flat, AV.cl, AV.one, Value.oneCell', thenQ, blockQ, noGotoQ, ↓reduceIte, Nat.reduceEqDiff, reduceCtorEq, aField, fo91_1, Nat.reduceAdd, aFind_vC, vGetA, vIsA]
    refine hC9 _ ?_
    try clear hC9 C9
    simp only [bL]
    refine aops_chunk 1 fun C10 hC10 => ?_
    simp only [bL, ↓aops, ↓aop, ↓aWant, ↓aVal, bS, bA, AV.flat, AV.cl, AV.one, Value.oneCell', thenQ, blockQ, noGotoQ, ↓reduceIte, Nat.reduceEqDiff, reduceCtorEq, aLoad, ti89, getO, pack, Nat.reduceAdd, Nat.reduceLeDiff, aFind_vC, vGetA, vIsA]
    refine hC10 _ ?_
    try clear hC10 C10
    simp only [bL]
    refine aops_chunk 1 fun C11 hC11 => ?_
    simp only [bL, ↓aops, ↓aop, ↓aWant, ↓aVal, bS, bA, AV.flat, AV.cl, AV.one, Value.oneCell', thenQ, blockQ, noGotoQ, ↓reduceIte, Nat.reduceEqDiff, reduceCtorEq, aFind_vC, vGetA, vIsA]
    refine hC11 _ ?_
    try clear hC11 C11
    simp only [bL]
    refine aops_chunk 1 fun C12 hC12 => ?_
    simp only [bL, ↓aops, ↓aop, ↓aWant, ↓aVal, bS, bA, AV.flat, AV.cl, AV.one, Value.oneCell', thenQ, blockQ, noGotoQ, ↓reduceIte, Nat.reduceEqDiff, reduceCtorEq, aLookup, mz89, getO, valAV, aFind_vC, vGetA, vIsA]
    refine hC12 _ ?_
    try clear hC12 C12
    simp only [bL]
    refine aops_chunk 1 fun C13 hC13 => ?_
    simp only [bL, ↓aops, ↓aop, ↓aWant, ↓aVal, bS, bA, AV.flat, AV.cl, AV.one, Value.oneCell', thenQ, blockQ, noGotoQ, ↓reduceIte, Nat.reduceEqDiff, reduceCtorEq, aFind_vC, vGetA, vIsA]
    refine hC13 _ ?_
    try clear hC13 C13
    simp only [bL]
    refine aops_chunk 1 fun C14 hC14 => ?_
    simp only [bL, ↓aops, ↓aop, ↓aWant, ↓aVal, bS, bA, AV.flat, AV.cl, AV.one, Value.oneCell', thenQ, blockQ, noGotoQ, ↓reduceIte, Nat.reduceEqDiff, reduceCtorEq, aExtract, Nat.reduceAdd, Nat.reduceLT, Nat.zero_lt_succ, aFind_vC, vGetA, vIsA]
    refine hC14 _ ?_
    try clear hC14 C14
    simp only [bL]
    refine aops_chunk 1 fun C15 hC15 => ?_
    simp only [bL, ↓aops, ↓aop, ↓aWant, ↓aVal, bS, bA, AV.flat, AV.cl, AV.one, Value.oneCell', thenQ, blockQ, noGotoQ, ↓reduceIte, Nat.reduceEqDiff, reduceCtorEq, aExtract, Nat.reduceAdd, Nat.reduceLT, Nat.zero_lt_succ, aFind_vC, vGetA, vIsA]
    refine hC15 _ ?_
    try clear hC15 C15
    simp only [bL]
    refine aops_chunk 1 fun C16 hC16 => ?_
    simp only [bL, ↓aops, ↓aop, ↓aWant, ↓aVal, bS, bA, AV.flat, AV.cl, AV.one, Value.oneCell', thenQ, blockQ, noGotoQ, ↓reduceIte, Nat.reduceEqDiff, reduceCtorEq, aFind_vC, vGetA, vIsA]
    refine hC16 _ ?_
    try clear hC16 C16
    simp only [bL]
    simp only [↓aops, ↓aop, ↓aWant, ↓aVal, bS, bA, AV.flat, AV.cl, AV.one, Value.oneCell', thenQ, blockQ, noGotoQ, ↓reduceIte, Nat.reduceEqDiff, reduceCtorEq, aFind_vC, vGetA, vIsA]
    refine hK6 _ ?_
    try clear hK6 K6
    refine AWp_seqK fun K17 hK17 => ?_
    refine AWp_region ?_
    refine aops_chunk 1 fun C18 hC18 => ?_
    simp only [bL, ↓aops, ↓aop, ↓aWant, ↓aVal, bS, bA, AV.flat, AV.cl, AV.one, Value.oneCell', thenQ, blockQ, noGotoQ, ↓reduceIte, Nat.reduceEqDiff, reduceCtorEq, aFind_vC, vGetA, vIsA]
    refine hC18 _ ?_
    try clear hC18 C18
    simp only [bL]
    refine aops_chunk 1 fun C19 hC19 => ?_
    simp only [bL, ↓aops, ↓aop, ↓aWant, ↓aVal, bS, bA, AV.flat, AV.cl, AV.one, Value.oneCell', thenQ, blockQ, noGotoQ, ↓reduceIte, Nat.reduceEqDiff, reduceCtorEq, aFind_vC, vGetA, vIsA]
    refine hC19 _ ?_
    try clear hC19 C19
    simp only [bL]
    refine aops_chunk 1 fun C20 hC20 => ?_
    simp only [bL, ↓aops, ↓aop, ↓aWant, ↓aVal, bS, bA, AV.flat, AV.cl, AV.one, Value.oneCell', thenQ, blockQ, noGotoQ, ↓reduceIte, Nat.reduceEqDiff, reduceCtorEq, aFind_vC, vGetA, vIsA]
    refine hC20 _ ?_
    try clear hC20 C20
    simp only [bL]
    simp only [↓aops, ↓aop, ↓aWant, ↓aVal, bS, bA, AV.flat, AV.cl, AV.one, Value.oneCell', thenQ, blockQ, noGotoQ, ↓reduceIte, Nat.reduceEqDiff, reduceCtorEq, aFind_vC, vGetA, vIsA]
    refine hK17 _ ?_
    try clear hK17 K17
    refine AWp_ret ?_
    try simp only [thenQ, blockQ, noGotoQ, retQ, aRes, tupOf, bS, bA]
    refine ⟨_, enumO 0 (gObs (G.N) (G.V)), ⟨rfl, rfl⟩, .tup ⟨.v _ _, .v _ _, trivial⟩, gUnd (by omega) _ _, ?_, ?_, by omega⟩
    · refine Le.of_eq ?_
      rfl
    · first | (refine ⟨0, ?_, rfl⟩; first | rfl | (simp only [gObs, enumO, List.drop_succ_cons, List.drop_zero, List.map_append, List.map_cons, List.map_nil, List.length_append, List.length_cons, List.length_nil, GNode.cells, List.take_length, Nat.reduceAdd, Nat.zero_add]; done))
end Go.Proofs.Ytohdoloalolpfaa
