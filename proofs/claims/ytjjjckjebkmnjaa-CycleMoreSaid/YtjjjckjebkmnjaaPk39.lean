/- Texts of the abstract walk, of the contracts and of the plain laws, packed (part 39 of 45): Un9. Conditions: none. -/
import Derived.Test.YtjjjckjebkmnjaaPk38
namespace Go.Proofs.Ytjjjckjebkmnjaa
open Go Go.RowKit
set_option maxRecDepth 100000
set_option maxHeartbeats 4000000
set_option linter.unusedSimpArgs false
set_option linter.unusedVariables false
attribute [local irreducible] aops dRun
theorem vGet (V : List (Int × Int)) (n : Int) : ((vfind V n).map fun i => AV.v (.int .i64 i)).getD (.v (.int .i64 0)) = .v (.int .i64 ((vfind V n).getD 0)) := by cases vfind V n <;> rfl
theorem vIs (V : List (Int × Int)) (n : Int) : ((vfind V n).map fun i => AV.v (.int .i64 i)).isSome = (vfind V n).isSome := by cases vfind V n <;> rfl
def nodeG (S : CS) (n : Int) : Int × Bool := if S.clash = true then (0, false) else ((vfind S.G.V n).getD 0, (vfind S.G.V n).isSome)
theorem nodeG_of {S : CS} {n k : Int} (h : S.clash = false) (hv : vfind S.G.V n = some k) : nodeG S n = (k, true) := by
  unfold nodeG
  rw [h, hv]; rfl
theorem GVar_calls (G : GS) (n : Int) : GCalls 66 [.ptr 0 0, .v (.int .i64 n)] (G.N) (G.V) (.tup [.v (.int .i64 ((vfind G.V n).getD 0)), .v (.bool (vfind G.V n).isSome)]) (G.N) (G.V) := by
  refine ACalls.clean (C := fun r os => r = _ ∧ os = _) ?_
  refine ACalls_intro Try.func66 (by kernel_rfl) rfl (by rw [Try.ntmps66]; simp) (fun hm => ?_)
  simp only [Try.ntmps66, Try.results66, List.length_cons, List.length_nil, Nat.reduceAdd, Nat.reduceSub, List.replicate_succ, List.replicate_zero, List.cons_append, List.nil_append]
  simp only [gObs, enumO, Nat.reduceAdd]
  refine AWp_seqK fun Y0 y0 => ?_
  refine AWp_region ?_
  refine aops_chunk 1 fun Q0 q0 => ?_
  simp only [↓bO, go_sem, seval, aFind_vC, vGet, vIs]
  refine q0 _ ?_
  clear q0 Q0
  simp only [go_sem]
  simp only [↓bO, go_sem, seval, aFind_vC, vGet, vIs]
  refine y0 _ ?_
  try clear y0 Y0
  refine AWp_seqK fun Y0 y0 => ?_
  refine AWp_seqK fun Y1 y1 => ?_
  refine AWp_region ?_
  refine aops_chunk 1 fun Q0 q0 => ?_
  simp only [↓bO, go_sem, seval, aFind_vC, vGet, vIs]
  refine q0 _ ?_
  clear q0 Q0
  simp only [go_sem]
  simp only [↓bO, go_sem, seval, aFind_vC, vGet, vIs]
  refine y1 _ ?_
  try clear y1 Y1
  refine AWp_cond rfl (fun hb9 => ?_) (fun hb9 => ?_)
  ·
   cases hb9
  ·
   refine AWp_skip ?_
   try simp only [thenQ, blockQ, noGotoQ]
   refine y0 _ ?_
   try clear y0 Y0
   refine AWp_seqK fun Y0 y0 => ?_
   refine AWp_region ?_
   iterate 10 (refine aops_chunk 1 fun Q0 q0 => ?_; simp only [↓bO, go_sem, seval, aFind_vC, vGet, vIs]; refine q0 _ ?_; clear q0 Q0; simp only [go_sem])
   simp only [↓bO, go_sem, seval, aFind_vC, vGet, vIs]
   refine y0 _ ?_
   try clear y0 Y0
   refine AWp_seqK fun Y0 y0 => ?_
   refine AWp_region ?_
   iterate 3 (refine aops_chunk 1 fun Q0 q0 => ?_; simp only [↓bO, go_sem, seval, aFind_vC, vGet, vIs]; refine q0 _ ?_; clear q0 Q0; simp only [go_sem])
   simp only [↓bO, go_sem, seval, aFind_vC, vGet, vIs]
   refine y0 _ ?_
   try clear y0 Y0
   refine AWp_ret ?_
   try simp only [thenQ, blockQ, noGotoQ, retQ, aRes, tupOf, bS, bA]
   refine ⟨_, enumO 0 (gObs (G.N) (G.V)), ⟨rfl, rfl⟩, .tup ⟨.v _ _, .v _ _, trivial⟩, gUnd (by omega) _ _, ?_, ?_, by omega⟩
   ·
    refine Le.of_eq ?_
    rfl
   · first | (refine ⟨0, ?_, rfl⟩; first | rfl | (simp only [gObs, enumO, List.drop_succ_cons, List.drop_zero, List.map_append, List.map_cons, List.map_nil, List.length_append, List.length_cons, List.length_nil, GNode.cells, List.take_length, Nat.reduceAdd, Nat.zero_add]; done))
theorem node_c (S : CS) (n : Int) : CCalls (σ := Int × Bool) 59 [.ptr 0 0, .v (.int .i64 n)] (S) (fun s => s.1 = S ∧ s.2 = nodeG S n) (fun s => .tup [.v (.int .i64 s.1), .v (.bool s.2)]) := by
  refine ACalls.clean (C := fun r os => ∃ s : CS × Int × Bool, (s.1 = S ∧ s.2 = nodeG S n) ∧ r = (fun s : Int × Bool => .tup [.v (.int .i64 s.1), .v (.bool s.2)]) s.2 ∧ os = enumO 0 (cObs s.1)) ?_
  refine ACalls_intro Try.func59 (by kernel_rfl) rfl (by rw [Try.ntmps59]; simp) (fun hm => ?_)
  simp only [Try.ntmps59, Try.results59, List.length_cons, List.length_nil, Nat.reduceAdd, Nat.reduceSub, List.replicate_succ, List.replicate_zero, List.cons_append, List.nil_append]
  simp only [cObs, enumO, Nat.reduceAdd]
  refine AWp_seqK fun Y0 y0 => ?_
  refine AWp_region ?_
  simp only [↓bO, go_sem, seval]
  refine y0 _ ?_
  try clear y0 Y0
  refine AWp_seqK fun Y0 y0 => ?_
  refine AWp_seqK fun Y1 y1 => ?_
  refine AWp_region ?_
  refine aops_chunk 1 fun Q0 q0 => ?_
  simp only [↓bO, go_sem, seval]
  refine q0 _ ?_
  clear q0 Q0
  simp only [go_sem]
  refine aops_chunk 1 fun Q0 q0 => ?_
  simp only [↓bO, go_sem, seval]
  refine CCalls.at (Err_c S) (.nil) (fun _ => .v _) (i0 := 0) (i1 := 1) (i2 := 2) (i3 := 3) (i4 := 4) (i5 := 5) (i6 := 6) (i7 := 7) (by decide) (by simp) ⟨rfl, rfl, rfl, rfl, rfl, rfl, rfl, rfl, trivial⟩ (fun Z9 u9 hZ9 => ?_)
  try dsimp only at hZ9
  simp only [cObsAt, List.zip_cons_cons, List.zip_nil_left, List.zip_nil_right, putsO, putO, Nat.reduceEqDiff, ↓reduceIte]
  obtain rfl : S = Z9 := hZ9.symm
  try simp only [bS, bA, thenQ, blockQ, noGotoQ]
  refine q0 _ ?_
  clear q0 Q0
  simp only [go_sem]
  simp only [↓bO, go_sem, seval]
  refine y1 _ ?_
  try clear y1 Y1
  refine AWp_cond rfl (fun hb8 => ?_) (fun hb8 => ?_)
  ·
   have hcs : S.clash = true := by (have h9 := hb8; cases hc : S.clash <;> simp [hc] at h9 ⊢)
   refine AWp_seqK fun Y1 y1 => ?_
   refine AWp_region ?_
   simp only [↓bO, go_sem, seval]
   refine y1 _ ?_
   try clear y1 Y1
   refine AWp_ret ?_
   try simp only [thenQ, blockQ, noGotoQ, retQ, aRes, tupOf, bS, bA]
   refine ⟨_, enumO 0 (cObs (S)), ⟨(S, (0, false)), ?_, rfl, rfl⟩, .tup ⟨.v _ _, .v _ _, trivial⟩, cUnd (by omega) _, ?_, ?_, by omega⟩
   · exact ⟨rfl, by rw [nodeG, hcs]; rfl⟩
   ·
    exact Le.refl _
   · first | (refine ⟨0, rfl, rfl⟩) | (refine ⟨0, by simp only [cObs, enumO, List.drop_zero, List.drop_succ_cons, Nat.reduceAdd], rfl⟩)
  ·
   have hcs : S.clash = false := by (have h9 := hb8; cases hc : S.clash <;> simp [hc] at h9 ⊢)
   refine AWp_skip ?_
   try simp only [thenQ, blockQ, noGotoQ]
   refine y0 _ ?_
   try clear y0 Y0
   refine AWp_seqK fun Y0 y0 => ?_
   refine AWp_region ?_
   refine aops_chunk 4 fun Q0 q0 => ?_
   iterate 2 (simp only [↓bO, go_sem, seval]; refine q0 _ ?_; clear q0 Q0; simp only [go_sem]; refine aops_chunk 1 fun Q0 q0 => ?_)
   simp only [↓bO, go_sem, seval]
   refine GCalls.at (GVar_calls S.G n) (.cons (.v _) .nil) (.tup (.cons (.v _) (.cons (.v _) .nil))) (i := 1) (j := 2) (k := 3) rfl rfl rfl (by decide) (by decide) (by decide) (by first | omega | (simp only; omega)) (by first | omega | (simp only; omega)) (by first | omega | (simp only; omega)) ?_
   simp only [putO, Nat.reduceEqDiff, ↓reduceIte]
   try simp only [bS, bA, thenQ, blockQ, noGotoQ]
   refine q0 _ ?_
   clear q0 Q0
   simp only [go_sem]
   simp only [↓bO, go_sem, seval]
   refine y0 _ ?_
   try clear y0 Y0
   refine AWp_ret ?_
   try simp only [thenQ, blockQ, noGotoQ, retQ, aRes, tupOf, bS, bA]
   refine ⟨_, enumO 0 (cObs (S)), ⟨(S, ((vfind S.G.V n).getD 0, (vfind S.G.V n).isSome)), ?_, rfl, rfl⟩, .tup ⟨.v _ _, .v _ _, trivial⟩, cUnd (by omega) _, ?_, ?_, by omega⟩
   · exact ⟨rfl, by rw [nodeG, hcs]; rfl⟩
   ·
    exact Le.refl _
   · first | (refine ⟨0, rfl, rfl⟩) | (refine ⟨0, by simp only [cObs, enumO, List.drop_zero, List.drop_succ_cons, Nat.reduceAdd], rfl⟩)
theorem PKind_c (S : CS) (hw : ∀ w ∈ S.W, w = -1 ∨ (0 ≤ w ∧ w < (S.G.N.length : Int))) (r : Nat) (x : Int) (hx : S.W[r]? = some x) : ACalls Try.prog 35 [.agg [.ptr 0 0, .v (.int .i64 (r : Int))]] (enumO 0 (cObs S)) 8 fun z os n => (∃ s : CS × Int, (s.1 = S ∧ ((x < 0 ∧ s.2 = 0) ∨ (0 ≤ x ∧ ∃ g, S.G.N[x.toNat]? = some g ∧ s.2 = g.k))) ∧ z = (fun s : Int => .v (.int .i64 s)) s.2 ∧ os = enumO 0 (cObs s.1)) ∧ n = 8 := by
  refine ACalls.clean (C := fun z os => ∃ s : CS × Int, (s.1 = S ∧ ((x < 0 ∧ s.2 = 0) ∨ (0 ≤ x ∧ ∃ g, S.G.N[x.toNat]? = some g ∧ s.2 = g.k))) ∧ z = (fun s : Int => .v (.int .i64 s)) s.2 ∧ os = enumO 0 (cObs s.1)) ?_
  refine ACalls_intro Try.func35 (by kernel_rfl) rfl (by rw [Try.ntmps35]; simp) (fun hm => ?_)
  simp only [Try.ntmps35, Try.results35, List.length_cons, List.length_nil, Nat.reduceAdd, Nat.reduceSub, List.replicate_succ, List.replicate_zero, List.cons_append, List.nil_append]
  simp only [cObs, enumO, Nat.reduceAdd]
  have hrl := (List.getElem?_eq_some_iff.1 hx).1
  have hwx := hw x (List.mem_of_getElem? hx)
  refine AWp_seqK fun Y0 y0 => ?_
  refine AWp_region ?_
  refine aops_chunk 1 fun Q0 q0 => ?_
  simp only [↓bO, go_sem, seval, hrl, gM hx, intC]
  refine q0 _ ?_
  clear q0 Q0
  simp only [go_sem]
  simp only [↓bO, go_sem, seval, hrl, gM hx, intC]
  refine y0 _ ?_
  try clear y0 Y0
  refine AWp_seqK fun Y0 y0 => ?_
  refine AWp_seqK fun Y1 y1 => ?_
  refine AWp_drawK 15 mixed (by kernel_rfl) fun J0 j0 => ?_
  iterate 4 (simp only [go_sem]; refine dRun_chunk 1 fun Q0 q0 => ?_; simp only [↓dRun, ↓dOp, ↓bO, go_sem, seval, hrl, gM hx, intC]; refine q0 _ ?_; clear q0 Q0)
  simp only [go_sem]
  refine dRun_case 6 rfl (fun hc6 => ?_) (fun hc6 => ?_)
  ·
   simp only [List.set_cons_zero, List.set_cons_succ]
   cases hc6
  ·
   simp only [List.set_cons_zero, List.set_cons_succ]
   iterate 10 (refine dRun_chunk 1 fun Q0 q0 => ?_; simp only [↓dRun, ↓dOp, ↓bO, go_sem, seval, hrl, gM hx, intC]; refine q0 _ ?_; clear q0 Q0; simp only [go_sem])
   simp only [↓dRun, ↓dOp, ↓bO, go_sem, seval, hrl, gM hx, intC]
   refine j0 _ ?_
   clear j0 J0
   simp only [bL, aops, thenQ, blockQ, noGotoQ]
   refine y1 _ ?_
   try clear y1 Y1
   refine AWp_cond rfl (fun hb17 => ?_) (fun hb17 => ?_)
   ·
    have hneg : x < 0 := by simpa using hb17
    refine AWp_seqK fun Y1 y1 => ?_
    refine AWp_region ?_
    simp only [↓bO, go_sem, seval, hrl, gM hx, intC]
    refine y1 _ ?_
    try clear y1 Y1
    refine AWp_ret ?_
    try simp only [thenQ, blockQ, noGotoQ, retQ, aRes, tupOf, bS, bA]
    refine ⟨_, enumO 0 (cObs (S)), ⟨(S, (0 : Int)), ?_, rfl, rfl⟩, .v _ _, cUnd (by omega) _, ?_, ?_, by omega⟩
    · exact ⟨rfl, .inl ⟨hneg, rfl⟩⟩
    ·
     exact Le.refl _
    · first | (refine ⟨1, rfl, rfl⟩) | (refine ⟨0, rfl, rfl⟩) | (refine ⟨1, by simp only [cObs, enumO, List.drop_zero, List.drop_succ_cons, Nat.reduceAdd], rfl⟩) | (refine ⟨0, by simp only [cObs, enumO, List.drop_zero, List.drop_succ_cons, Nat.reduceAdd], rfl⟩)
   ·
    have hpos : 0 ≤ x := by simpa using hb17
    obtain ⟨g, hg⟩ : ∃ g, S.G.N[x.toNat]? = some g := ⟨_, List.getElem?_eq_getElem (by omega)⟩
    refine AWp_skip ?_
    try simp only [thenQ, blockQ, noGotoQ]
    refine y0 _ ?_
    try clear y0 Y0
    refine AWp_seqK fun Y0 y0 => ?_
    refine AWp_drawK 14 mixed (by kernel_rfl) fun J0 j0 => ?_
    iterate 13 (simp only [go_sem]; refine dRun_chunk 1 fun Q0 q0 => ?_; simp only [↓dRun, ↓dOp, ↓bO, go_sem, seval, hrl, gM hx, intC]; refine q0 _ ?_; clear q0 Q0)
    simp only [go_sem]
    simp only [↓dRun, ↓dOp, ↓bO, go_sem, seval, hrl, gM hx, intC]
    refine j0 _ ?_
    clear j0 J0
    simp only [go_sem]
    refine aops_chunk 1 fun Q0 q0 => ?_
    simp only [↓bO, go_sem, seval, hrl, gM hx, intC]
    refine GCalls.at (Kind_calls S.G x g hpos hg) (.cons (.v _) .nil) (.v _) (i := 1) (j := 2) (k := 3) rfl rfl rfl (by decide) (by decide) (by decide) (by first | omega | (simp only; omega)) (by first | omega | (simp only; omega)) (by first | omega | (simp only; omega)) ?_
    simp only [putO, Nat.reduceEqDiff, ↓reduceIte]
    try simp only [bS, bA, thenQ, blockQ, noGotoQ]
    refine q0 _ ?_
    clear q0 Q0
    simp only [go_sem]
    simp only [↓bO, go_sem, seval, hrl, gM hx, intC]
    refine y0 _ ?_
    try clear y0 Y0
    refine AWp_ret ?_
    try simp only [thenQ, blockQ, noGotoQ, retQ, aRes, tupOf, bS, bA]
    refine ⟨_, enumO 0 (cObs (S)), ⟨(S, g.k), ?_, rfl, rfl⟩, .v _ _, cUnd (by omega) _, ?_, ?_, by omega⟩
    · exact ⟨rfl, .inr ⟨hpos, g, hg, rfl⟩⟩
    ·
     exact Le.refl _
    · first | (refine ⟨1, rfl, rfl⟩) | (refine ⟨0, rfl, rfl⟩) | (refine ⟨1, by simp only [cObs, enumO, List.drop_zero, List.drop_succ_cons, Nat.reduceAdd], rfl⟩) | (refine ⟨0, by simp only [cObs, enumO, List.drop_zero, List.drop_succ_cons, Nat.reduceAdd], rfl⟩)
end Go.Proofs.Ytjjjckjebkmnjaa
