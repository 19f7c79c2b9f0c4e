/- Texts of the abstract walk, of the contracts and of the plain laws, packed (part 41 of 47): Un9. Conditions: none. -/
import Derived.Test.YtjjjckjebkmnjaaPk40
namespace Go.Proofs.Ytjjjckjebkmnjaa
open Go Go.RowKit
set_option maxRecDepth 100000
set_option maxHeartbeats 4000000
set_option linter.unusedSimpArgs false
set_option linter.unusedVariables false
attribute [local irreducible] aops dRun
theorem vGet (V : List (Int × Int)) (n : Int) : ((vfind V n).map fun i => AV.v (.int .i64 i)).getD (.v (.int .i64 0)) = .v (.int .i64 ((vfind V n).getD 0)) := by cases vfind V n <;> rfl
theorem vIs (V : List (Int × Int)) (n : Int) : ((vfind V n).map fun i => AV.v (.int .i64 i)).isSome = (vfind V n).isSome := by cases vfind V n <;> rfl
def nodeG (S : CS) (n : Int) : Int × Bool := if S.clash = true then (0, false) else ((vfind S.G.V n).getD 0, (vfind S.G.V n).isSome)
theorem nodeG_some {S : CS} {n : Int} (h : (nodeG S n).2 = true) : S.clash = false ∧ ∃ k, vfind S.G.V n = some k ∧ (nodeG S n).1 = k := by
  unfold nodeG at h ⊢
  split at h
  · cases h
  · rename_i hc
    rw [if_neg hc]
    refine ⟨by simpa using hc, ?_⟩
    cases hv : vfind S.G.V n with
    | none => rw [hv] at h; cases h
    | some k => exact ⟨k, rfl, rfl⟩
theorem nodeG_none {S : CS} {n : Int} (h : (nodeG S n).2 = false) : S.clash = true ∨ vfind S.G.V n = none := by
  unfold nodeG at h
  split at h
  · exact .inl (by assumption)
  · cases hv : vfind S.G.V n with
    | none => exact .inr rfl
    | some k => rw [hv] at h; cases h
theorem nodeG_of {S : CS} {n k : Int} (h : S.clash = false) (hv : vfind S.G.V n = some k) : nodeG S n = (k, true) := by
  unfold nodeG
  rw [h, hv]; rfl
theorem One.of_rt {up : List Nat} {a b r q : Nat} (ha : Rt up a r) (hb : Rt up b q) : One up a b ↔ r = q := by
  constructor
  · rintro (rfl | ⟨t, h1, h2⟩)
    · exact Rt.det ha hb
    · cases Rt.det ha h1
      exact (Rt.det hb h2).symm ▸ rfl
  · rintro rfl
    exact .inr ⟨r, ha, hb⟩
theorem GVar_calls (G : GS) (n : Int) : GCalls 66 [.ptr 0 0, .v (.int .i64 n)] (G.N) (G.V) (.tup [.v (.int .i64 ((vfind G.V n).getD 0)), .v (.bool (vfind G.V n).isSome)]) (G.N) (G.V) := by
  refine ACalls.clean (C := fun r os => r = _ ∧ os = _) ?_
  refine ACalls_intro Try.func66 (by kernel_rfl) rfl (by rw [Try.ntmps66]; simp) (fun hm => ?_)
  simp only [Try.ntmps66, Try.results66, List.length_cons, List.length_nil, Nat.reduceAdd, Nat.reduceSub, List.replicate_succ, List.replicate_zero, List.cons_append, List.nil_append]
  simp only [gObs, enumO, Nat.reduceAdd]
  refine AWp_seqK fun Y0 y0 => ?_
  refine AWp_region ?_
  refine aops_chunk 1 fun Q0 q0 => ?_
  simp only [↓bO, go_sem, seval, aFind_vC, vGet, vIs]
  refine q0 _ ?_
  clear q0 Q0
  simp only [go_sem]
  simp only [↓bO, go_sem, seval, aFind_vC, vGet, vIs]
  refine y0 _ ?_
  try clear y0 Y0
  refine AWp_seqK fun Y0 y0 => ?_
  refine AWp_seqK fun Y1 y1 => ?_
  refine AWp_region ?_
  refine aops_chunk 1 fun Q0 q0 => ?_
  simp only [↓bO, go_sem, seval, aFind_vC, vGet, vIs]
  refine q0 _ ?_
  clear q0 Q0
  simp only [go_sem]
  simp only [↓bO, go_sem, seval, aFind_vC, vGet, vIs]
  refine y1 _ ?_
  try clear y1 Y1
  refine AWp_cond rfl (fun hb9 => ?_) (fun hb9 => ?_)
  ·
   cases hb9
  ·
   refine AWp_skip ?_
   try simp only [thenQ, blockQ, noGotoQ]
   refine y0 _ ?_
   try clear y0 Y0
   refine AWp_seqK fun Y0 y0 => ?_
   refine AWp_region ?_
   iterate 10 (refine aops_chunk 1 fun Q0 q0 => ?_; simp only [↓bO, go_sem, seval, aFind_vC, vGet, vIs]; refine q0 _ ?_; clear q0 Q0; simp only [go_sem])
   simp only [↓bO, go_sem, seval, aFind_vC, vGet, vIs]
   refine y0 _ ?_
   try clear y0 Y0
   refine AWp_seqK fun Y0 y0 => ?_
   refine AWp_region ?_
   iterate 3 (refine aops_chunk 1 fun Q0 q0 => ?_; simp only [↓bO, go_sem, seval, aFind_vC, vGet, vIs]; refine q0 _ ?_; clear q0 Q0; simp only [go_sem])
   simp only [↓bO, go_sem, seval, aFind_vC, vGet, vIs]
   refine y0 _ ?_
   try clear y0 Y0
   refine AWp_ret ?_
   try simp only [thenQ, blockQ, noGotoQ, retQ, aRes, tupOf, bS, bA]
   refine ⟨_, enumO 0 (gObs (G.N) (G.V)), ⟨rfl, rfl⟩, .tup ⟨.v _ _, .v _ _, trivial⟩, gUnd (by omega) _ _, ?_, ?_, by omega⟩
   ·
    refine Le.of_eq ?_
    rfl
   · first | (refine ⟨0, ?_, rfl⟩; first | rfl | (simp only [gObs, enumO, List.drop_succ_cons, List.drop_zero, List.map_append, List.map_cons, List.map_nil, List.length_append, List.length_cons, List.length_nil, GNode.cells, List.take_length, Nat.reduceAdd, Nat.zero_add]; done))
theorem node_c (S : CS) (n : Int) : CCalls (σ := Int × Bool) 59 [.ptr 0 0, .v (.int .i64 n)] (S) (fun s => s.1 = S ∧ s.2 = nodeG S n) (fun s => .tup [.v (.int .i64 s.1), .v (.bool s.2)]) := by
  refine ACalls.clean (C := fun r os => ∃ s : CS × Int × Bool, (s.1 = S ∧ s.2 = nodeG S n) ∧ r = (fun s : Int × Bool => .tup [.v (.int .i64 s.1), .v (.bool s.2)]) s.2 ∧ os = enumO 0 (cObs s.1)) ?_
  refine ACalls_intro Try.func59 (by kernel_rfl) rfl (by rw [Try.ntmps59]; simp) (fun hm => ?_)
  simp only [Try.ntmps59, Try.results59, List.length_cons, List.length_nil, Nat.reduceAdd, Nat.reduceSub, List.replicate_succ, List.replicate_zero, List.cons_append, List.nil_append]
  simp only [cObs, enumO, Nat.reduceAdd]
  refine AWp_seqK fun Y0 y0 => ?_
  refine AWp_region ?_
  simp only [↓bO, go_sem, seval]
  refine y0 _ ?_
  try clear y0 Y0
  refine AWp_seqK fun Y0 y0 => ?_
  refine AWp_seqK fun Y1 y1 => ?_
  refine AWp_region ?_
  refine aops_chunk 1 fun Q0 q0 => ?_
  simp only [↓bO, go_sem, seval]
  refine q0 _ ?_
  clear q0 Q0
  simp only [go_sem]
  refine aops_chunk 1 fun Q0 q0 => ?_
  simp only [↓bO, go_sem, seval]
  refine CCalls.at (Err_c S) (.nil) (fun _ => .v _) (i0 := 0) (i1 := 1) (i2 := 2) (i3 := 3) (i4 := 4) (i5 := 5) (i6 := 6) (i7 := 7) (by decide) (by simp) ⟨rfl, rfl, rfl, rfl, rfl, rfl, rfl, rfl, trivial⟩ (fun Z9 u9 hZ9 => ?_)
  try dsimp only at hZ9
  simp only [cObsAt, List.zip_cons_cons, List.zip_nil_left, List.zip_nil_right, putsO, putO, Nat.reduceEqDiff, ↓reduceIte]
  obtain rfl : S = Z9 := hZ9.symm
  try simp only [bS, bA, thenQ, blockQ, noGotoQ]
  refine q0 _ ?_
  clear q0 Q0
  simp only [go_sem]
  simp only [↓bO, go_sem, seval]
  refine y1 _ ?_
  try clear y1 Y1
  refine AWp_cond rfl (fun hb8 => ?_) (fun hb8 => ?_)
  ·
   have hcs : S.clash = true := by (have h9 := hb8; cases hc : S.clash <;> simp [hc] at h9 ⊢)
   refine AWp_seqK fun Y1 y1 => ?_
   refine AWp_region ?_
   simp only [↓bO, go_sem, seval]
   refine y1 _ ?_
   try clear y1 Y1
   refine AWp_ret ?_
   try simp only [thenQ, blockQ, noGotoQ, retQ, aRes, tupOf, bS, bA]
   refine ⟨_, enumO 0 (cObs (S)), ⟨(S, (0, false)), ?_, rfl, rfl⟩, .tup ⟨.v _ _, .v _ _, trivial⟩, cUnd (by omega) _, ?_, ?_, by omega⟩
   · exact ⟨rfl, by rw [nodeG, hcs]; rfl⟩
   ·
    exact Le.refl _
   · first | (refine ⟨0, rfl, rfl⟩) | (refine ⟨0, by simp only [cObs, enumO, List.drop_zero, List.drop_succ_cons, Nat.reduceAdd], rfl⟩)
  ·
   have hcs : S.clash = false := by (have h9 := hb8; cases hc : S.clash <;> simp [hc] at h9 ⊢)
   refine AWp_skip ?_
   try simp only [thenQ, blockQ, noGotoQ]
   refine y0 _ ?_
   try clear y0 Y0
   refine AWp_seqK fun Y0 y0 => ?_
   refine AWp_region ?_
   refine aops_chunk 4 fun Q0 q0 => ?_
   iterate 2 (simp only [↓bO, go_sem, seval]; refine q0 _ ?_; clear q0 Q0; simp only [go_sem]; refine aops_chunk 1 fun Q0 q0 => ?_)
   simp only [↓bO, go_sem, seval]
   refine GCalls.at (GVar_calls S.G n) (.cons (.v _) .nil) (.tup (.cons (.v _) (.cons (.v _) .nil))) (i := 1) (j := 2) (k := 3) rfl rfl rfl (by decide) (by decide) (by decide) (by first | omega | (simp only; omega)) (by first | omega | (simp only; omega)) (by first | omega | (simp only; omega)) ?_
   simp only [putO, Nat.reduceEqDiff, ↓reduceIte]
   try simp only [bS, bA, thenQ, blockQ, noGotoQ]
   refine q0 _ ?_
   clear q0 Q0
   simp only [go_sem]
   simp only [↓bO, go_sem, seval]
   refine y0 _ ?_
   try clear y0 Y0
   refine AWp_ret ?_
   try simp only [thenQ, blockQ, noGotoQ, retQ, aRes, tupOf, bS, bA]
   refine ⟨_, enumO 0 (cObs (S)), ⟨(S, ((vfind S.G.V n).getD 0, (vfind S.G.V n).isSome)), ?_, rfl, rfl⟩, .tup ⟨.v _ _, .v _ _, trivial⟩, cUnd (by omega) _, ?_, ?_, by omega⟩
   · exact ⟨rfl, by rw [nodeG, hcs]; rfl⟩
   ·
    exact Le.refl _
   · first | (refine ⟨0, rfl, rfl⟩) | (refine ⟨0, by simp only [cObs, enumO, List.drop_zero, List.drop_succ_cons, Nat.reduceAdd], rfl⟩)
theorem FSm_f (F : FS) (hF : FInv F) (a b : Nat) (ha : a < F.up.length) (hb : b < F.up.length) : FCalls (σ := Bool) 62 [.ptr 0 0, .v (.int .i64 (a : Int)), .v (.int .i64 (b : Int))] (F) (fun s => FSame F s.1 ∧ (s.2 = true ↔ One F.up a b)) (fun s => .v (.bool s)) := by
  refine ACalls.clean (C := fun r os => ∃ s : FS × Bool, (FSame F s.1 ∧ (s.2 = true ↔ One F.up a b)) ∧ r = (fun s : Bool => .v (.bool s)) s.2 ∧ os = enumO 0 (fObs s.1)) ?_
  refine ACalls_intro Try.func62 (by kernel_rfl) rfl (by rw [Try.ntmps62]; simp) (fun hm => ?_)
  simp only [Try.ntmps62, Try.results62, List.length_cons, List.length_nil, Nat.reduceAdd, Nat.reduceSub, List.replicate_succ, List.replicate_zero, List.cons_append, List.nil_append]
  simp only [fObs, enumO, Nat.reduceAdd]
  refine AWp_seqK fun Y0 y0 => ?_
  refine AWp_region ?_
  simp only [↓bO, go_sem, seval]
  refine y0 _ ?_
  try clear y0 Y0
  refine AWp_seqK fun Y0 y0 => ?_
  refine AWp_region ?_
  iterate 2 (refine aops_chunk 1 fun Q0 q0 => ?_; simp only [↓bO, go_sem, seval]; refine q0 _ ?_; clear q0 Q0; simp only [go_sem])
  refine aops_chunk 1 fun Q0 q0 => ?_
  simp only [↓bO, go_sem, seval]
  refine FCalls.at (there_f F (a : Int)) (.cons (.v _) .nil) (fun _ => .v _) (i := 0) (j := 1) (k := 2) rfl rfl rfl (by decide) (by decide) (by decide) (by first | omega | (simp only; omega)) (by first | omega | (simp only; omega)) (by first | omega | (simp only; omega)) (fun G0 u0 hG0 => ?_)
  try dsimp only at hG0
  simp only [putO, Nat.reduceEqDiff, ↓reduceIte]
  obtain rfl : F = G0 := hG0.symm
  try simp only [bS, bA, thenQ, blockQ, noGotoQ]
  refine q0 _ ?_
  clear q0 Q0
  simp only [go_sem]
  refine aops_chunk 1 fun Q0 q0 => ?_
  simp only [↓bO, go_sem, seval]
  refine q0 _ ?_
  clear q0 Q0
  simp only [go_sem]
  refine aops_case 10 rfl (fun hc10 => ?_) (fun hc10 => ?_)
  ·
   simp only [List.set_cons_zero, List.set_cons_succ]
   iterate 2 (refine aops_chunk 1 fun Q0 q0 => ?_; simp only [↓bO, go_sem, seval]; refine q0 _ ?_; clear q0 Q0; simp only [go_sem])
   refine aops_chunk 1 fun Q0 q0 => ?_
   simp only [↓bO, go_sem, seval]
   refine FCalls.at (there_f F (b : Int)) (.cons (.v _) .nil) (fun _ => .v _) (i := 0) (j := 1) (k := 2) rfl rfl rfl (by decide) (by decide) (by decide) (by first | omega | (simp only; omega)) (by first | omega | (simp only; omega)) (by first | omega | (simp only; omega)) (fun G0 u0 hG0 => ?_)
   try dsimp only at hG0
   simp only [putO, Nat.reduceEqDiff, ↓reduceIte]
   obtain rfl : F = G0 := hG0.symm
   try simp only [bS, bA, thenQ, blockQ, noGotoQ]
   iterate 2 (refine q0 _ ?_; clear q0 Q0; simp only [go_sem]; refine aops_chunk 1 fun Q0 q0 => ?_; simp only [↓bO, go_sem, seval])
   refine q0 _ ?_
   clear q0 Q0
   simp only [go_sem]
   refine aops_case 15 rfl (fun hc15 => ?_) (fun hc15 => ?_)
   ·
    simp only [List.set_cons_zero, List.set_cons_succ]
    iterate 2 (refine aops_chunk 1 fun Q0 q0 => ?_; simp only [↓bO, go_sem, seval]; refine q0 _ ?_; clear q0 Q0; simp only [go_sem])
    refine aops_chunk 1 fun Q0 q0 => ?_
    simp only [↓bO, go_sem, seval]
    refine FCalls.at (find_f F hF a ha) (.cons (.v _) .nil) (fun _ => .v _) (i := 0) (j := 1) (k := 2) rfl rfl rfl (by decide) (by decide) (by decide) (by first | omega | (simp only; omega)) (by first | omega | (simp only; omega)) (by first | omega | (simp only; omega)) (fun G1 r1 hG1 => ?_)
    try dsimp only at hG1
    simp only [putO, Nat.reduceEqDiff, ↓reduceIte]
    try simp only [bS, bA, thenQ, blockQ, noGotoQ]
    iterate 3 (refine q0 _ ?_; clear q0 Q0; simp only [go_sem]; refine aops_chunk 1 fun Q0 q0 => ?_; simp only [↓bO, go_sem, seval])
    refine FCalls.at (find_f G1 hG1.1.inv b (by rw [hG1.1.len]; exact hb)) (.cons (.v _) .nil) (fun _ => .v _) (i := 0) (j := 1) (k := 2) rfl rfl rfl (by decide) (by decide) (by decide) (by first | omega | (simp only; omega)) (by first | omega | (simp only; omega)) (by first | omega | (simp only; omega)) (fun G2 r2 hG2 => ?_)
    try dsimp only at hG2
    simp only [putO, Nat.reduceEqDiff, ↓reduceIte]
    try simp only [bS, bA, thenQ, blockQ, noGotoQ]
    iterate 2 (refine q0 _ ?_; clear q0 Q0; simp only [go_sem]; refine aops_chunk 1 fun Q0 q0 => ?_; simp only [↓bO, go_sem, seval])
    refine q0 _ ?_
    clear q0 Q0
    simp only [go_sem]
    simp only [↓bO, go_sem, seval]
    refine y0 _ ?_
    try clear y0 Y0
    refine AWp_ret ?_
    try simp only [thenQ, blockQ, noGotoQ, retQ, aRes, tupOf, bS, bA]
    refine ⟨_, enumO 0 (fObs (G2)), ⟨(G2, ((r1 : Int) == (r2 : Int))), ?_, rfl, rfl⟩, .v _ _, fUnd (by omega) _, ?_, ?_, by omega⟩
    · exact ⟨hG1.1.trans hG2.1, by rw [One.of_rt hG1.2 ((hG1.1.rt _ _).1 hG2.2), beq_iff_eq]; omega⟩
    ·
     exact Le.refl _
    · first | (refine ⟨0, rfl, rfl⟩) | (refine ⟨0, by simp only [fObs, enumO, List.drop_zero, List.drop_succ_cons, Nat.reduceAdd], rfl⟩)
   ·
    simp only [List.set_cons_zero, List.set_cons_succ]
    exact absurd hc15 (by simp; omega)
  ·
   simp only [List.set_cons_zero, List.set_cons_succ]
   exact absurd hc10 (by simp; omega)
theorem CSame_c (S : CS) (hF : FInv S.F) (hv : ∀ n k, vfind S.G.V n = some k → 0 ≤ k ∧ k < (S.F.up.length : Int)) (a b : Int) : CCalls (σ := Bool) 24 [.ptr 0 0, .v (.int .i64 a), .v (.int .i64 b)] (S) (fun s => FSame S.F s.1.F ∧ s.1 = { S with F := s.1.F } ∧ (s.2 = true ↔ S.clash = false ∧ ∃ i k, vfind S.G.V a = some i ∧ vfind S.G.V b = some k ∧ One S.F.up i.toNat k.toNat)) (fun s => .v (.bool s)) := by
  refine ACalls.clean (C := fun r os => ∃ s : CS × Bool, (FSame S.F s.1.F ∧ s.1 = { S with F := s.1.F } ∧ (s.2 = true ↔ S.clash = false ∧ ∃ i k, vfind S.G.V a = some i ∧ vfind S.G.V b = some k ∧ One S.F.up i.toNat k.toNat)) ∧ r = (fun s : Bool => .v (.bool s)) s.2 ∧ os = enumO 0 (cObs s.1)) ?_
  refine ACalls_intro Try.func24 (by kernel_rfl) rfl (by rw [Try.ntmps24]; simp) (fun hm => ?_)
  simp only [Try.ntmps24, Try.results24, List.length_cons, List.length_nil, Nat.reduceAdd, Nat.reduceSub, List.replicate_succ, List.replicate_zero, List.cons_append, List.nil_append]
  simp only [cObs, enumO, Nat.reduceAdd]
  refine AWp_seqK fun Y0 y0 => ?_
  refine AWp_region ?_
  simp only [↓bO, go_sem, seval]
  refine y0 _ ?_
  try clear y0 Y0
  refine AWp_seqK fun Y0 y0 => ?_
  refine AWp_region ?_
  iterate 2 (refine aops_chunk 1 fun Q0 q0 => ?_; simp only [↓bO, go_sem, seval]; refine q0 _ ?_; clear q0 Q0; simp only [go_sem])
  refine aops_chunk 1 fun Q0 q0 => ?_
  simp only [↓bO, go_sem, seval]
  refine CCalls.at (node_c S a) (.cons (.v _) .nil) (fun _ => .tup (.cons (.v _) (.cons (.v _) .nil))) (i0 := 0) (i1 := 1) (i2 := 2) (i3 := 3) (i4 := 4) (i5 := 5) (i6 := 6) (i7 := 7) (by decide) (by simp) ⟨rfl, rfl, rfl, rfl, rfl, rfl, rfl, rfl, trivial⟩ (fun Z9 u9 hZ9 => ?_)
  try dsimp only at hZ9
  simp only [cObsAt, List.zip_cons_cons, List.zip_nil_left, List.zip_nil_right, putsO, putO, Nat.reduceEqDiff, ↓reduceIte]
  obtain ⟨hZ, rfl⟩ := hZ9
  obtain rfl : S = Z9 := hZ.symm
  try simp only [bS, bA, thenQ, blockQ, noGotoQ]
  iterate 4 (refine q0 _ ?_; clear q0 Q0; simp only [go_sem]; refine aops_chunk 1 fun Q0 q0 => ?_; simp only [↓bO, go_sem, seval])
  refine q0 _ ?_
  clear q0 Q0
  simp only [go_sem]
  simp only [↓bO, go_sem, seval]
  refine y0 _ ?_
  try clear y0 Y0
  refine AWp_seqK fun Y0 y0 => ?_
  refine AWp_region ?_
  iterate 2 (refine aops_chunk 1 fun Q0 q0 => ?_; simp only [↓bO, go_sem, seval]; refine q0 _ ?_; clear q0 Q0; simp only [go_sem])
  refine aops_chunk 1 fun Q0 q0 => ?_
  simp only [↓bO, go_sem, seval]
  refine CCalls.at (node_c S b) (.cons (.v _) .nil) (fun _ => .tup (.cons (.v _) (.cons (.v _) .nil))) (i0 := 0) (i1 := 1) (i2 := 2) (i3 := 3) (i4 := 4) (i5 := 5) (i6 := 6) (i7 := 7) (by decide) (by simp) ⟨rfl, rfl, rfl, rfl, rfl, rfl, rfl, rfl, trivial⟩ (fun Z9 z9 hZ8 => ?_)
  try dsimp only at hZ8
  simp only [cObsAt, List.zip_cons_cons, List.zip_nil_left, List.zip_nil_right, putsO, putO, Nat.reduceEqDiff, ↓reduceIte]
  obtain ⟨hZ, rfl⟩ := hZ8
  obtain rfl : S = Z9 := hZ.symm
  try simp only [bS, bA, thenQ, blockQ, noGotoQ]
  iterate 4 (refine q0 _ ?_; clear q0 Q0; simp only [go_sem]; refine aops_chunk 1 fun Q0 q0 => ?_; simp only [↓bO, go_sem, seval])
  refine q0 _ ?_
  clear q0 Q0
  simp only [go_sem]
  simp only [↓bO, go_sem, seval]
  refine y0 _ ?_
  try clear y0 Y0
  refine AWp_seqK fun Y0 y0 => ?_
  refine AWp_region ?_
  iterate 2 (refine aops_chunk 1 fun Q0 q0 => ?_; simp only [↓bO, go_sem, seval]; refine q0 _ ?_; clear q0 Q0; simp only [go_sem])
  refine aops_case 24 rfl (fun hc24 => ?_) (fun hc24 => ?_)
  ·
   simp only [List.set_cons_zero, List.set_cons_succ]
   obtain ⟨hcs, i0, hvi, hi0⟩ := nodeG_some hc24
   iterate 3 (refine aops_chunk 1 fun Q0 q0 => ?_; simp only [↓bO, go_sem, seval]; refine q0 _ ?_; clear q0 Q0; simp only [go_sem])
   refine aops_case 27 rfl (fun hc27 => ?_) (fun hc27 => ?_)
   ·
    simp only [List.set_cons_zero, List.set_cons_succ]
    obtain ⟨_, k0, hvk, hk0⟩ := nodeG_some hc27
    have hib := hv _ _ hvi
    have hkb := hv _ _ hvk
    obtain ⟨i, rfl⟩ : ∃ i : Nat, i0 = (i : Int) := ⟨i0.toNat, by omega⟩
    obtain ⟨k, rfl⟩ : ∃ k : Nat, k0 = (k : Int) := ⟨k0.toNat, by omega⟩
    iterate 6 (refine aops_chunk 1 fun Q0 q0 => ?_; simp only [↓bO, go_sem, seval, hi0, hk0]; refine q0 _ ?_; clear q0 Q0; simp only [go_sem])
    refine aops_chunk 1 fun Q0 q0 => ?_
    simp only [↓bO, go_sem, seval, hi0, hk0]
    refine FCalls.at (FSm_f S.F hF i k (by omega) (by omega)) (.cons (.v _) (.cons (.v _) .nil)) (fun _ => .v _) (i := 4) (j := 5) (k := 6) rfl rfl rfl (by decide) (by decide) (by decide) (by first | omega | (simp only; omega)) (by first | omega | (simp only; omega)) (by first | omega | (simp only; omega)) (fun G1 r1 hG1 => ?_)
    try dsimp only at hG1
    simp only [putO, Nat.reduceEqDiff, ↓reduceIte]
    try simp only [bS, bA, thenQ, blockQ, noGotoQ]
    refine q0 _ ?_
    clear q0 Q0
    simp only [go_sem]
    refine aops_chunk 1 fun Q0 q0 => ?_
    simp only [↓bO, go_sem, seval, hi0, hk0]
    refine q0 _ ?_
    clear q0 Q0
    simp only [go_sem]
    simp only [↓bO, go_sem, seval, hi0, hk0]
    refine y0 _ ?_
    try clear y0 Y0
    refine AWp_ret ?_
    try simp only [thenQ, blockQ, noGotoQ, retQ, aRes, tupOf, bS, bA]
    refine ⟨_, enumO 0 (cObs ({ S with F := G1 })), ⟨({ S with F := G1 }, r1), ?_, rfl, rfl⟩, .v _ _, cUnd (by omega) _, ?_, ?_, by omega⟩
    · exact ⟨hG1.1, rfl, hG1.2.trans ⟨fun h9 => ⟨hcs, _, _, hvi, hvk, h9⟩, fun h9 => (by obtain ⟨_, i9, k9, h1, h2, h3⟩ := h9; rw [hvi] at h1; rw [hvk] at h2; cases h1; cases h2; exact h3)⟩⟩
    ·
     exact Le.refl _
    · first | (refine ⟨0, rfl, rfl⟩) | (refine ⟨0, by simp only [cObs, enumO, List.drop_zero, List.drop_succ_cons, Nat.reduceAdd], rfl⟩)
   ·
    simp only [List.set_cons_zero, List.set_cons_succ]
    have hno2 := nodeG_none hc27
    iterate 8 (refine aops_chunk 1 fun Q0 q0 => ?_; simp only [↓bO, go_sem, seval]; refine q0 _ ?_; clear q0 Q0; simp only [go_sem])
    simp only [↓bO, go_sem, seval]
    refine y0 _ ?_
    try clear y0 Y0
    refine AWp_ret ?_
    try simp only [thenQ, blockQ, noGotoQ, retQ, aRes, tupOf, bS, bA]
    refine ⟨_, enumO 0 (cObs (S)), ⟨(S, false), ?_, rfl, rfl⟩, .v _ _, cUnd (by omega) _, ?_, ?_, by omega⟩
    · exact ⟨FSame.refl hF, rfl, by rcases hno2 with h9 | h9 <;> simp [h9]⟩
    ·
     exact Le.refl _
    · first | (refine ⟨0, rfl, rfl⟩) | (refine ⟨0, by simp only [cObs, enumO, List.drop_zero, List.drop_succ_cons, Nat.reduceAdd], rfl⟩)
  ·
   simp only [List.set_cons_zero, List.set_cons_succ]
   have hno := nodeG_none hc24
   iterate 11 (refine aops_chunk 1 fun Q0 q0 => ?_; simp only [↓bO, go_sem, seval]; refine q0 _ ?_; clear q0 Q0; simp only [go_sem])
   simp only [↓bO, go_sem, seval]
   refine y0 _ ?_
   try clear y0 Y0
   refine AWp_ret ?_
   try simp only [thenQ, blockQ, noGotoQ, retQ, aRes, tupOf, bS, bA]
   refine ⟨_, enumO 0 (cObs (S)), ⟨(S, false), ?_, rfl, rfl⟩, .v _ _, cUnd (by omega) _, ?_, ?_, by omega⟩
   · exact ⟨FSame.refl hF, rfl, by rcases hno with h9 | h9 <;> simp [h9]⟩
   ·
    exact Le.refl _
   · first | (refine ⟨0, rfl, rfl⟩) | (refine ⟨0, by simp only [cObs, enumO, List.drop_zero, List.drop_succ_cons, Nat.reduceAdd], rfl⟩)
theorem PKind_c (S : CS) (hw : ∀ w ∈ S.W, w = -1 ∨ (0 ≤ w ∧ w < (S.G.N.length : Int))) (r : Nat) (x : Int) (hx : S.W[r]? = some x) : ACalls Try.prog 35 [.agg [.ptr 0 0, .v (.int .i64 (r : Int))]] (enumO 0 (cObs S)) 8 fun z os n => (∃ s : CS × Int, (s.1 = S ∧ ((x < 0 ∧ s.2 = 0) ∨ (0 ≤ x ∧ ∃ g, S.G.N[x.toNat]? = some g ∧ s.2 = g.k))) ∧ z = (fun s : Int => .v (.int .i64 s)) s.2 ∧ os = enumO 0 (cObs s.1)) ∧ n = 8 := by
  refine ACalls.clean (C := fun z os => ∃ s : CS × Int, (s.1 = S ∧ ((x < 0 ∧ s.2 = 0) ∨ (0 ≤ x ∧ ∃ g, S.G.N[x.toNat]? = some g ∧ s.2 = g.k))) ∧ z = (fun s : Int => .v (.int .i64 s)) s.2 ∧ os = enumO 0 (cObs s.1)) ?_
  refine ACalls_intro Try.func35 (by kernel_rfl) rfl (by rw [Try.ntmps35]; simp) (fun hm => ?_)
  simp only [Try.ntmps35, Try.results35, List.length_cons, List.length_nil, Nat.reduceAdd, Nat.reduceSub, List.replicate_succ, List.replicate_zero, List.cons_append, List.nil_append]
  simp only [cObs, enumO, Nat.reduceAdd]
  have hrl := (List.getElem?_eq_some_iff.1 hx).1
  have hwx := hw x (List.mem_of_getElem? hx)
  refine AWp_seqK fun Y0 y0 => ?_
  refine AWp_region ?_
  refine aops_chunk 1 fun Q0 q0 => ?_
  simp only [↓bO, go_sem, seval, hrl, gM hx, intC]
  refine q0 _ ?_
  clear q0 Q0
  simp only [go_sem]
  simp only [↓bO, go_sem, seval, hrl, gM hx, intC]
  refine y0 _ ?_
  try clear y0 Y0
  refine AWp_seqK fun Y0 y0 => ?_
  refine AWp_seqK fun Y1 y1 => ?_
  refine AWp_drawK 15 mixed (by kernel_rfl) fun J0 j0 => ?_
  iterate 4 (simp only [go_sem]; refine dRun_chunk 1 fun Q0 q0 => ?_; simp only [↓dRun, ↓dOp, ↓bO, go_sem, seval, hrl, gM hx, intC]; refine q0 _ ?_; clear q0 Q0)
  simp only [go_sem]
  refine dRun_case 6 rfl (fun hc6 => ?_) (fun hc6 => ?_)
  ·
   simp only [List.set_cons_zero, List.set_cons_succ]
   cases hc6
  ·
   simp only [List.set_cons_zero, List.set_cons_succ]
   iterate 10 (refine dRun_chunk 1 fun Q0 q0 => ?_; simp only [↓dRun, ↓dOp, ↓bO, go_sem, seval, hrl, gM hx, intC]; refine q0 _ ?_; clear q0 Q0; simp only [go_sem])
   simp only [↓dRun, ↓dOp, ↓bO, go_sem, seval, hrl, gM hx, intC]
   refine j0 _ ?_
   clear j0 J0
   simp only [bL, aops, thenQ, blockQ, noGotoQ]
   refine y1 _ ?_
   try clear y1 Y1
   refine AWp_cond rfl (fun hb17 => ?_) (fun hb17 => ?_)
   ·
    have hneg : x < 0 := by simpa using hb17
    refine AWp_seqK fun Y1 y1 => ?_
    refine AWp_region ?_
    simp only [↓bO, go_sem, seval, hrl, gM hx, intC]
    refine y1 _ ?_
    try clear y1 Y1
    refine AWp_ret ?_
    try simp only [thenQ, blockQ, noGotoQ, retQ, aRes, tupOf, bS, bA]
    refine ⟨_, enumO 0 (cObs (S)), ⟨(S, (0 : Int)), ?_, rfl, rfl⟩, .v _ _, cUnd (by omega) _, ?_, ?_, by omega⟩
    · exact ⟨rfl, .inl ⟨hneg, rfl⟩⟩
    ·
     exact Le.refl _
    · first | (refine ⟨1, rfl, rfl⟩) | (refine ⟨0, rfl, rfl⟩) | (refine ⟨1, by simp only [cObs, enumO, List.drop_zero, List.drop_succ_cons, Nat.reduceAdd], rfl⟩) | (refine ⟨0, by simp only [cObs, enumO, List.drop_zero, List.drop_succ_cons, Nat.reduceAdd], rfl⟩)
   ·
    have hpos : 0 ≤ x := by simpa using hb17
    obtain ⟨g, hg⟩ : ∃ g, S.G.N[x.toNat]? = some g := ⟨_, List.getElem?_eq_getElem (by omega)⟩
    refine AWp_skip ?_
    try simp only [thenQ, blockQ, noGotoQ]
    refine y0 _ ?_
    try clear y0 Y0
    refine AWp_seqK fun Y0 y0 => ?_
    refine AWp_drawK 14 mixed (by kernel_rfl) fun J0 j0 => ?_
    iterate 13 (simp only [go_sem]; refine dRun_chunk 1 fun Q0 q0 => ?_; simp only [↓dRun, ↓dOp, ↓bO, go_sem, seval, hrl, gM hx, intC]; refine q0 _ ?_; clear q0 Q0)
    simp only [go_sem]
    simp only [↓dRun, ↓dOp, ↓bO, go_sem, seval, hrl, gM hx, intC]
    refine j0 _ ?_
    clear j0 J0
    simp only [go_sem]
    refine aops_chunk 1 fun Q0 q0 => ?_
    simp only [↓bO, go_sem, seval, hrl, gM hx, intC]
    refine GCalls.at (Kind_calls S.G x g hpos hg) (.cons (.v _) .nil) (.v _) (i := 1) (j := 2) (k := 3) rfl rfl rfl (by decide) (by decide) (by decide) (by first | omega | (simp only; omega)) (by first | omega | (simp only; omega)) (by first | omega | (simp only; omega)) ?_
    simp only [putO, Nat.reduceEqDiff, ↓reduceIte]
    try simp only [bS, bA, thenQ, blockQ, noGotoQ]
    refine q0 _ ?_
    clear q0 Q0
    simp only [go_sem]
    simp only [↓bO, go_sem, seval, hrl, gM hx, intC]
    refine y0 _ ?_
    try clear y0 Y0
    refine AWp_ret ?_
    try simp only [thenQ, blockQ, noGotoQ, retQ, aRes, tupOf, bS, bA]
    refine ⟨_, enumO 0 (cObs (S)), ⟨(S, g.k), ?_, rfl, rfl⟩, .v _ _, cUnd (by omega) _, ?_, ?_, by omega⟩
    · exact ⟨rfl, .inr ⟨hpos, g, hg, rfl⟩⟩
    ·
     exact Le.refl _
    · first | (refine ⟨1, rfl, rfl⟩) | (refine ⟨0, rfl, rfl⟩) | (refine ⟨1, by simp only [cObs, enumO, List.drop_zero, List.drop_succ_cons, Nat.reduceAdd], rfl⟩) | (refine ⟨0, by simp only [cObs, enumO, List.drop_zero, List.drop_succ_cons, Nat.reduceAdd], rfl⟩)
theorem CKind_c (S : CS) (hF : FInv S.F) (hfl : S.F.up.length = S.W.length) (hw : ∀ w ∈ S.W, w = -1 ∨ (0 ≤ w ∧ w < (S.G.N.length : Int))) (hv : ∀ n k, vfind S.G.V n = some k → 0 ≤ k ∧ k < (S.F.up.length : Int)) (n : Int) : CCalls (σ := Int) 23 [.ptr 0 0, .v (.int .i64 n)] (S) (fun s => FSame S.F s.1.F ∧ s.1 = { S with F := s.1.F } ∧ (((S.clash = true ∨ vfind S.G.V n = none) ∧ s.2 = 0) ∨ (S.clash = false ∧ ∃ (i : Int) (r : Nat) (x : Int), vfind S.G.V n = some i ∧ Rt S.F.up i.toNat r ∧ S.W[r]? = some x ∧ ((x < 0 ∧ s.2 = 0) ∨ (0 ≤ x ∧ ∃ g, S.G.N[x.toNat]? = some g ∧ s.2 = g.k))))) (fun s => .v (.int .i64 s)) := by
  refine ACalls.clean (C := fun r os => ∃ s : CS × Int, (FSame S.F s.1.F ∧ s.1 = { S with F := s.1.F } ∧ (((S.clash = true ∨ vfind S.G.V n = none) ∧ s.2 = 0) ∨ (S.clash = false ∧ ∃ (i : Int) (r : Nat) (x : Int), vfind S.G.V n = some i ∧ Rt S.F.up i.toNat r ∧ S.W[r]? = some x ∧ ((x < 0 ∧ s.2 = 0) ∨ (0 ≤ x ∧ ∃ g, S.G.N[x.toNat]? = some g ∧ s.2 = g.k))))) ∧ r = (fun s : Int => .v (.int .i64 s)) s.2 ∧ os = enumO 0 (cObs s.1)) ?_
  refine ACalls_intro Try.func23 (by kernel_rfl) rfl (by rw [Try.ntmps23]; simp) (fun hm => ?_)
  simp only [Try.ntmps23, Try.results23, List.length_cons, List.length_nil, Nat.reduceAdd, Nat.reduceSub, List.replicate_succ, List.replicate_zero, List.cons_append, List.nil_append]
  simp only [cObs, enumO, Nat.reduceAdd]
  refine AWp_seqK fun Y0 y0 => ?_
  refine AWp_region ?_
  simp only [↓bO, go_sem, seval]
  refine y0 _ ?_
  try clear y0 Y0
  refine AWp_seqK fun Y0 y0 => ?_
  refine AWp_region ?_
  iterate 2 (refine aops_chunk 1 fun Q0 q0 => ?_; simp only [↓bO, go_sem, seval]; refine q0 _ ?_; clear q0 Q0; simp only [go_sem])
  refine aops_chunk 1 fun Q0 q0 => ?_
  simp only [↓bO, go_sem, seval]
  refine CCalls.at (node_c S n) (.cons (.v _) .nil) (fun _ => .tup (.cons (.v _) (.cons (.v _) .nil))) (i0 := 0) (i1 := 1) (i2 := 2) (i3 := 3) (i4 := 4) (i5 := 5) (i6 := 6) (i7 := 7) (by decide) (by simp) ⟨rfl, rfl, rfl, rfl, rfl, rfl, rfl, rfl, trivial⟩ (fun Z9 u9 hZ9 => ?_)
  try dsimp only at hZ9
  simp only [cObsAt, List.zip_cons_cons, List.zip_nil_left, List.zip_nil_right, putsO, putO, Nat.reduceEqDiff, ↓reduceIte]
  obtain ⟨hZ, rfl⟩ := hZ9
  obtain rfl : S = Z9 := hZ.symm
  try simp only [bS, bA, thenQ, blockQ, noGotoQ]
  iterate 4 (refine q0 _ ?_; clear q0 Q0; simp only [go_sem]; refine aops_chunk 1 fun Q0 q0 => ?_; simp only [↓bO, go_sem, seval])
  refine q0 _ ?_
  clear q0 Q0
  simp only [go_sem]
  simp only [↓bO, go_sem, seval]
  refine y0 _ ?_
  try clear y0 Y0
  refine AWp_seqK fun Y0 y0 => ?_
  refine AWp_seqK fun Y1 y1 => ?_
  refine AWp_region ?_
  refine aops_chunk 1 fun Q0 q0 => ?_
  simp only [↓bO, go_sem, seval]
  refine q0 _ ?_
  clear q0 Q0
  simp only [go_sem]
  simp only [↓bO, go_sem, seval]
  refine y1 _ ?_
  try clear y1 Y1
  refine AWp_cond rfl (fun hb14 => ?_) (fun hb14 => ?_)
  ·
   have hno := nodeG_none (by simpa using hb14)
   refine AWp_seqK fun Y1 y1 => ?_
   refine AWp_region ?_
   simp only [↓bO, go_sem, seval]
   refine y1 _ ?_
   try clear y1 Y1
   refine AWp_ret ?_
   try simp only [thenQ, blockQ, noGotoQ, retQ, aRes, tupOf, bS, bA]
   refine ⟨_, enumO 0 (cObs (S)), ⟨(S, (0 : Int)), ?_, rfl, rfl⟩, .v _ _, cUnd (by omega) _, ?_, ?_, by omega⟩
   · exact ⟨FSame.refl hF, rfl, .inl ⟨hno, rfl⟩⟩
   ·
    exact Le.refl _
   · first | (refine ⟨0, rfl, rfl⟩) | (refine ⟨0, by simp only [cObs, enumO, List.drop_zero, List.drop_succ_cons, Nat.reduceAdd], rfl⟩)
  ·
   obtain ⟨hcs, i0, hvi, hi0⟩ := nodeG_some (S := S) (n := n) (by simpa using hb14)
   have hib := hv _ _ hvi
   obtain ⟨i, rfl⟩ : ∃ i : Nat, i0 = (i : Int) := ⟨i0.toNat, by omega⟩
   refine AWp_skip ?_
   try simp only [thenQ, blockQ, noGotoQ]
   refine y0 _ ?_
   try clear y0 Y0
   refine AWp_seqK fun Y0 y0 => ?_
   refine AWp_region ?_
   iterate 3 (refine aops_chunk 1 fun Q0 q0 => ?_; simp only [↓bO, go_sem, seval, hi0]; refine q0 _ ?_; clear q0 Q0; simp only [go_sem])
   refine aops_chunk 1 fun Q0 q0 => ?_
   simp only [↓bO, go_sem, seval, hi0]
   refine CCalls.at (root_c S hF i (by omega)) (.cons (.v _) .nil) (fun _ => .v _) (i0 := 0) (i1 := 1) (i2 := 2) (i3 := 3) (i4 := 4) (i5 := 5) (i6 := 6) (i7 := 7) (by decide) (by simp) ⟨rfl, rfl, rfl, rfl, rfl, rfl, rfl, rfl, trivial⟩ (fun S1 r hS1 => ?_)
   try dsimp only at hS1
   simp only [cObsAt, List.zip_cons_cons, List.zip_nil_left, List.zip_nil_right, putsO, putO, Nat.reduceEqDiff, ↓reduceIte]
   obtain ⟨hfs, hrt, hS1e⟩ := hS1
   have hrl := hrt.lt'
   have hrl2 := hrt.lt
   obtain ⟨x, hx⟩ : ∃ x, S.W[r]? = some x := ⟨_, List.getElem?_eq_getElem (by omega)⟩
   have hx1 : S1.W[r]? = some x := by rw [hS1e]; exact hx
   try simp only [bS, bA, thenQ, blockQ, noGotoQ]
   iterate 2 (refine q0 _ ?_; clear q0 Q0; simp only [go_sem]; refine aops_chunk 1 fun Q0 q0 => ?_; simp only [↓bO, go_sem, seval, hi0])
   refine ACalls.mono (show ACalls Try.prog 35 _ (enumO 0 (cObs S1)) 8 _ from PKind_c S1 (by rw [hS1e]; exact hw) r x hx1) ?_
   rintro z os' nx' ⟨⟨s9, ⟨hs9, hk9⟩, rfl, rfl⟩, rfl⟩
   obtain rfl : S1 = s9.1 := hs9.symm
   simp only [cObs, enumO, Nat.reduceAdd]
   try simp only [bS, bA, thenQ, blockQ, noGotoQ]
   refine q0 _ ?_
   clear q0 Q0
   simp only [go_sem]
   simp only [↓bO, go_sem, seval, hi0]
   refine y0 _ ?_
   try clear y0 Y0
   refine AWp_ret ?_
   try simp only [thenQ, blockQ, noGotoQ, retQ, aRes, tupOf, bS, bA]
   refine ⟨_, enumO 0 (cObs (s9.1)), ⟨(s9.1, s9.2), ?_, rfl, rfl⟩, .v _ _, cUnd (by omega) _, ?_, ?_, by omega⟩
   · exact ⟨hfs, hS1e, .inr ⟨hcs, _, r, x, hvi, hrt, hx, by rw [hS1e] at hk9; exact hk9⟩⟩
   ·
    exact Le.refl _
   · first | (refine ⟨0, rfl, rfl⟩) | (refine ⟨0, by simp only [cObs, enumO, List.drop_zero, List.drop_succ_cons, Nat.reduceAdd], rfl⟩)
end Go.Proofs.Ytjjjckjebkmnjaa
