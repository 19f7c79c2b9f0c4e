/- Texts of the abstract walk, of the contracts and of the plain laws, packed (part 45 of 45): Uc0 UnA Ur4 Uc Uclasses. Conditions: none. -/
import Derived.Test.YtjjjckjebkmnjaaPk44
import Derived.Test.YtjjjckjebkmnjaaRows
import Derived.OpenShut
import Derived.ChangeOld
import Derived.Below
namespace Go.Proofs.Ytjjjckjebkmnjaa
open Go Go.RowKit
set_option maxRecDepth 100000
set_option maxHeartbeats 4000000
set_option linter.unusedSimpArgs false
set_option linter.unusedVariables false
attribute [local irreducible] aops dRun
theorem CPartsNo_c (S : CS) (n : Int) (h : S.clash = true) : CCalls (σ := Unit) 21 [.ptr 0 0, .v (.int .i64 n)] (S) (fun s => s.1 = S) (fun s => .tup [.sl 2 [], .v (.bool false)]) := by
  refine ACalls.clean (C := fun r os => ∃ s : CS × Unit, (s.1 = S) ∧ r = (fun s : Unit => .tup [.sl 2 [], .v (.bool false)]) s.2 ∧ os = enumO 0 (cObs s.1)) ?_
  refine ACalls_intro Try.func21 (by kernel_rfl) rfl (by rw [Try.ntmps21]; simp) (fun hm => ?_)
  simp only [Try.ntmps21, Try.results21, List.length_cons, List.length_nil, Nat.reduceAdd, Nat.reduceSub, List.replicate_succ, List.replicate_zero, List.cons_append, List.nil_append]
  simp only [cObs, enumO, Nat.reduceAdd]
  refine AWp_seqK fun Y0 y0 => ?_
  refine AWp_region ?_
  refine aops_chunk 1 fun Q0 q0 => ?_
  simp only [↓aops, ↓aop, ↓aWant, ↓aVal, go_sem, seval]
  refine q0 _ ?_
  clear q0 Q0
  simp only [go_sem]
  simp only [↓aops, ↓aop, ↓aWant, ↓aVal, go_sem, seval]
  refine y0 _ ?_
  try clear y0 Y0
  refine AWp_seqK fun Y0 y0 => ?_
  refine AWp_region ?_
  iterate 2 (refine aops_chunk 1 fun Q0 q0 => ?_; simp only [↓aops, ↓aop, ↓aWant, ↓aVal, go_sem, seval]; refine q0 _ ?_; clear q0 Q0; simp only [go_sem])
  refine aops_chunk 1 fun Q0 q0 => ?_
  simp only [↓aops, ↓aop, ↓aWant, ↓aVal, go_sem, seval]
  refine CCalls.at (node_c S n) (.cons (.v _) .nil) (fun _ => .tup (.cons (.v _) (.cons (.v _) .nil))) (i0 := 0) (i1 := 1) (i2 := 2) (i3 := 3) (i4 := 4) (i5 := 5) (i6 := 6) (i7 := 7) (by decide) (by simp) ⟨rfl, rfl, rfl, rfl, rfl, rfl, rfl, rfl, trivial⟩ (fun Z9 z9 hZ9 => ?_)
  try dsimp only at hZ9
  simp only [cObsAt, List.zip_cons_cons, List.zip_nil_left, List.zip_nil_right, putsO, putO, Nat.reduceEqDiff, ↓reduceIte]
  obtain ⟨hZ, rfl⟩ := hZ9
  obtain rfl : S = Z9 := hZ.symm
  rw [show nodeG S n = (0, false) from by rw [nodeG, if_pos h]]
  try simp only [bS, bA, thenQ, blockQ, noGotoQ]
  iterate 4 (refine q0 _ ?_; clear q0 Q0; simp only [go_sem]; refine aops_chunk 1 fun Q0 q0 => ?_; simp only [↓aops, ↓aop, ↓aWant, ↓aVal, go_sem, seval])
  refine q0 _ ?_
  clear q0 Q0
  simp only [go_sem]
  simp only [↓aops, ↓aop, ↓aWant, ↓aVal, go_sem, seval]
  refine y0 _ ?_
  try clear y0 Y0
  refine AWp_seqK fun Y0 y0 => ?_
  refine AWp_seqK fun Y1 y1 => ?_
  refine AWp_drawK 14 mixed (by kernel_rfl) fun J0 j0 => ?_
  iterate 3 (simp only [go_sem]; refine dRun_chunk 1 fun Q0 q0 => ?_; simp only [↓dRun, ↓dOp, ↓aops, ↓aop, ↓aWant, ↓aVal, go_sem, seval]; refine q0 _ ?_; clear q0 Q0)
  simp only [go_sem]
  refine dRun_case 16 rfl (fun hc16 => ?_) (fun hc16 => ?_)
  ·
   simp only [List.set_cons_zero, List.set_cons_succ]
   iterate 10 (refine dRun_chunk 1 fun Q0 q0 => ?_; simp only [↓dRun, ↓dOp, ↓aops, ↓aop, ↓aWant, ↓aVal, go_sem, seval]; refine q0 _ ?_; clear q0 Q0; simp only [go_sem])
   simp only [↓dRun, ↓dOp, ↓aops, ↓aop, ↓aWant, ↓aVal, go_sem, seval]
   refine j0 _ ?_
   clear j0 J0
   simp only [bL, aops, thenQ, blockQ, noGotoQ]
   refine y1 _ ?_
   try clear y1 Y1
   refine AWp_cond (b := true) (by first | exact rfl | exact congrArg (fun b => AV.v (.bool b)) hb27) (fun _ => ?_) (fun h => (by cases h))
   refine AWp_seqK fun Y1 y1 => ?_
   refine AWp_region ?_
   refine aops_chunk 1 fun Q0 q0 => ?_
   simp only [↓aops, ↓aop, ↓aWant, ↓aVal, go_sem, seval]
   refine q0 _ ?_
   clear q0 Q0
   simp only [go_sem]
   simp only [↓aops, ↓aop, ↓aWant, ↓aVal, go_sem, seval]
   refine y1 _ ?_
   try clear y1 Y1
   refine AWp_ret ?_
   try simp only [thenQ, blockQ, noGotoQ, retQ, aRes, tupOf, bS, bA]
   refine ⟨_, enumO 0 (cObs (S)), ⟨(S, ()), ?_, rfl, rfl⟩, .tup ⟨.data (.sl (by intro x hx; cases hx)), .v _ _, trivial⟩, cUnd (by omega) _, ?_, ?_, by omega⟩
   · exact rfl
   ·
    exact Le.tup ⟨Le.slNil 2, .refl _, trivial⟩
   · first | (refine ⟨0, rfl, rfl⟩) | (refine ⟨0, by simp only [cObs, enumO, List.drop_zero, List.drop_succ_cons, Nat.reduceAdd], rfl⟩)
  ·
   simp only [List.set_cons_zero, List.set_cons_succ]
   exact absurd hc16 (by simp)
theorem CKindNo_c (S : CS) (n : Int) (h : S.clash = true) : CCalls (σ := Unit) 23 [.ptr 0 0, .v (.int .i64 n)] (S) (fun s => s.1 = S) (fun s => .v (.int .i64 0)) := by
  refine ACalls.clean (C := fun r os => ∃ s : CS × Unit, (s.1 = S) ∧ r = (fun s : Unit => .v (.int .i64 0)) s.2 ∧ os = enumO 0 (cObs s.1)) ?_
  refine ACalls_intro Try.func23 (by kernel_rfl) rfl (by rw [Try.ntmps23]; simp) (fun hm => ?_)
  simp only [Try.ntmps23, Try.results23, List.length_cons, List.length_nil, Nat.reduceAdd, Nat.reduceSub, List.replicate_succ, List.replicate_zero, List.cons_append, List.nil_append]
  simp only [cObs, enumO, Nat.reduceAdd]
  refine AWp_seqK fun Y0 y0 => ?_
  refine AWp_region ?_
  simp only [↓aops, ↓aop, ↓aWant, ↓aVal, go_sem, seval]
  refine y0 _ ?_
  try clear y0 Y0
  refine AWp_seqK fun Y0 y0 => ?_
  refine AWp_region ?_
  iterate 2 (refine aops_chunk 1 fun Q0 q0 => ?_; simp only [↓aops, ↓aop, ↓aWant, ↓aVal, go_sem, seval]; refine q0 _ ?_; clear q0 Q0; simp only [go_sem])
  refine aops_chunk 1 fun Q0 q0 => ?_
  simp only [↓aops, ↓aop, ↓aWant, ↓aVal, go_sem, seval]
  refine CCalls.at (node_c S n) (.cons (.v _) .nil) (fun _ => .tup (.cons (.v _) (.cons (.v _) .nil))) (i0 := 0) (i1 := 1) (i2 := 2) (i3 := 3) (i4 := 4) (i5 := 5) (i6 := 6) (i7 := 7) (by decide) (by simp) ⟨rfl, rfl, rfl, rfl, rfl, rfl, rfl, rfl, trivial⟩ (fun Z9 z9 hZ9 => ?_)
  try dsimp only at hZ9
  simp only [cObsAt, List.zip_cons_cons, List.zip_nil_left, List.zip_nil_right, putsO, putO, Nat.reduceEqDiff, ↓reduceIte]
  obtain ⟨hZ, rfl⟩ := hZ9
  obtain rfl : S = Z9 := hZ.symm
  rw [show nodeG S n = (0, false) from by rw [nodeG, if_pos h]]
  try simp only [bS, bA, thenQ, blockQ, noGotoQ]
  iterate 4 (refine q0 _ ?_; clear q0 Q0; simp only [go_sem]; refine aops_chunk 1 fun Q0 q0 => ?_; simp only [↓aops, ↓aop, ↓aWant, ↓aVal, go_sem, seval])
  refine q0 _ ?_
  clear q0 Q0
  simp only [go_sem]
  simp only [↓aops, ↓aop, ↓aWant, ↓aVal, go_sem, seval]
  refine y0 _ ?_
  try clear y0 Y0
  refine AWp_seqK fun Y0 y0 => ?_
  refine AWp_seqK fun Y1 y1 => ?_
  refine AWp_region ?_
  refine aops_chunk 1 fun Q0 q0 => ?_
  simp only [↓aops, ↓aop, ↓aWant, ↓aVal, go_sem, seval]
  refine q0 _ ?_
  clear q0 Q0
  simp only [go_sem]
  simp only [↓aops, ↓aop, ↓aWant, ↓aVal, go_sem, seval]
  refine y1 _ ?_
  try clear y1 Y1
  refine AWp_cond rfl (fun hb14 => ?_) (fun hb14 => ?_)
  ·
   refine AWp_seqK fun Y1 y1 => ?_
   refine AWp_region ?_
   simp only [↓aops, ↓aop, ↓aWant, ↓aVal, go_sem, seval]
   refine y1 _ ?_
   try clear y1 Y1
   refine AWp_ret ?_
   try simp only [thenQ, blockQ, noGotoQ, retQ, aRes, tupOf, bS, bA]
   refine ⟨_, enumO 0 (cObs (S)), ⟨(S, ()), ?_, rfl, rfl⟩, .v _ _, cUnd (by omega) _, ?_, ?_, by omega⟩
   · exact rfl
   ·
    exact Le.refl _
   · first | (refine ⟨0, rfl, rfl⟩) | (refine ⟨0, by simp only [cObs, enumO, List.drop_zero, List.drop_succ_cons, Nat.reduceAdd], rfl⟩)
  ·
   exact absurd hb14 (by simp)
theorem CSameNo_c (S : CS) (a b : Int) (h : S.clash = true) : CCalls (σ := Unit) 24 [.ptr 0 0, .v (.int .i64 a), .v (.int .i64 b)] (S) (fun s => s.1 = S) (fun s => .v (.bool false)) := by
  refine ACalls.clean (C := fun r os => ∃ s : CS × Unit, (s.1 = S) ∧ r = (fun s : Unit => .v (.bool false)) s.2 ∧ os = enumO 0 (cObs s.1)) ?_
  refine ACalls_intro Try.func24 (by kernel_rfl) rfl (by rw [Try.ntmps24]; simp) (fun hm => ?_)
  simp only [Try.ntmps24, Try.results24, List.length_cons, List.length_nil, Nat.reduceAdd, Nat.reduceSub, List.replicate_succ, List.replicate_zero, List.cons_append, List.nil_append]
  simp only [cObs, enumO, Nat.reduceAdd]
  refine AWp_seqK fun Y0 y0 => ?_
  refine AWp_region ?_
  simp only [↓aops, ↓aop, ↓aWant, ↓aVal, go_sem, seval]
  refine y0 _ ?_
  try clear y0 Y0
  refine AWp_seqK fun Y0 y0 => ?_
  refine AWp_region ?_
  iterate 2 (refine aops_chunk 1 fun Q0 q0 => ?_; simp only [↓aops, ↓aop, ↓aWant, ↓aVal, go_sem, seval]; refine q0 _ ?_; clear q0 Q0; simp only [go_sem])
  refine aops_chunk 1 fun Q0 q0 => ?_
  simp only [↓aops, ↓aop, ↓aWant, ↓aVal, go_sem, seval]
  refine CCalls.at (node_c S a) (.cons (.v _) .nil) (fun _ => .tup (.cons (.v _) (.cons (.v _) .nil))) (i0 := 0) (i1 := 1) (i2 := 2) (i3 := 3) (i4 := 4) (i5 := 5) (i6 := 6) (i7 := 7) (by decide) (by simp) ⟨rfl, rfl, rfl, rfl, rfl, rfl, rfl, rfl, trivial⟩ (fun Z9 z9 hZ9 => ?_)
  try dsimp only at hZ9
  simp only [cObsAt, List.zip_cons_cons, List.zip_nil_left, List.zip_nil_right, putsO, putO, Nat.reduceEqDiff, ↓reduceIte]
  obtain ⟨hZ, rfl⟩ := hZ9
  obtain rfl : S = Z9 := hZ.symm
  rw [show nodeG S a = (0, false) from by rw [nodeG, if_pos h]]
  try simp only [bS, bA, thenQ, blockQ, noGotoQ]
  iterate 4 (refine q0 _ ?_; clear q0 Q0; simp only [go_sem]; refine aops_chunk 1 fun Q0 q0 => ?_; simp only [↓aops, ↓aop, ↓aWant, ↓aVal, go_sem, seval])
  refine q0 _ ?_
  clear q0 Q0
  simp only [go_sem]
  simp only [↓aops, ↓aop, ↓aWant, ↓aVal, go_sem, seval]
  refine y0 _ ?_
  try clear y0 Y0
  refine AWp_seqK fun Y0 y0 => ?_
  refine AWp_region ?_
  iterate 2 (refine aops_chunk 1 fun Q0 q0 => ?_; simp only [↓aops, ↓aop, ↓aWant, ↓aVal, go_sem, seval]; refine q0 _ ?_; clear q0 Q0; simp only [go_sem])
  refine aops_chunk 1 fun Q0 q0 => ?_
  simp only [↓aops, ↓aop, ↓aWant, ↓aVal, go_sem, seval]
  refine CCalls.at (node_c S b) (.cons (.v _) .nil) (fun _ => .tup (.cons (.v _) (.cons (.v _) .nil))) (i0 := 0) (i1 := 1) (i2 := 2) (i3 := 3) (i4 := 4) (i5 := 5) (i6 := 6) (i7 := 7) (by decide) (by simp) ⟨rfl, rfl, rfl, rfl, rfl, rfl, rfl, rfl, trivial⟩ (fun Z9 z8 hZ9 => ?_)
  try dsimp only at hZ9
  simp only [cObsAt, List.zip_cons_cons, List.zip_nil_left, List.zip_nil_right, putsO, putO, Nat.reduceEqDiff, ↓reduceIte]
  obtain ⟨hZ, rfl⟩ := hZ9
  obtain rfl : S = Z9 := hZ.symm
  rw [show nodeG S b = (0, false) from by rw [nodeG, if_pos h]]
  try simp only [bS, bA, thenQ, blockQ, noGotoQ]
  iterate 4 (refine q0 _ ?_; clear q0 Q0; simp only [go_sem]; refine aops_chunk 1 fun Q0 q0 => ?_; simp only [↓aops, ↓aop, ↓aWant, ↓aVal, go_sem, seval])
  refine q0 _ ?_
  clear q0 Q0
  simp only [go_sem]
  simp only [↓aops, ↓aop, ↓aWant, ↓aVal, go_sem, seval]
  refine y0 _ ?_
  try clear y0 Y0
  refine AWp_seqK fun Y0 y0 => ?_
  refine AWp_region ?_
  iterate 2 (refine aops_chunk 1 fun Q0 q0 => ?_; simp only [↓aops, ↓aop, ↓aWant, ↓aVal, go_sem, seval]; refine q0 _ ?_; clear q0 Q0; simp only [go_sem])
  refine aops_case 24 rfl (fun hc24 => ?_) (fun hc24 => ?_)
  ·
   simp only [List.set_cons_zero, List.set_cons_succ]
   exact absurd hc24 (by simp)
  ·
   simp only [List.set_cons_zero, List.set_cons_succ]
   iterate 11 (refine aops_chunk 1 fun Q0 q0 => ?_; simp only [↓aops, ↓aop, ↓aWant, ↓aVal, go_sem, seval]; refine q0 _ ?_; clear q0 Q0; simp only [go_sem])
   simp only [↓aops, ↓aop, ↓aWant, ↓aVal, go_sem, seval]
   refine y0 _ ?_
   try clear y0 Y0
   refine AWp_ret ?_
   try simp only [thenQ, blockQ, noGotoQ, retQ, aRes, tupOf, bS, bA]
   refine ⟨_, enumO 0 (cObs (S)), ⟨(S, ()), ?_, rfl, rfl⟩, .v _ _, cUnd (by omega) _, ?_, ?_, by omega⟩
   · exact rfl
   ·
    exact Le.refl _
   · first | (refine ⟨0, rfl, rfl⟩) | (refine ⟨0, by simp only [cObs, enumO, List.drop_zero, List.drop_succ_cons, Nat.reduceAdd], rfl⟩)
theorem ClassNo_c (S : CS) (n : Int) (h : S.clash = true) : CCalls (σ := Unit) 25 [.ptr 0 0, .v (.int .i64 n)] (S) (fun s => s.1 = S) (fun s => .sl 1 (([] : List Int).map intC)) := by
  refine ACalls.clean (C := fun r os => ∃ s : CS × Unit, (s.1 = S) ∧ r = (fun s : Unit => .sl 1 (([] : List Int).map intC)) s.2 ∧ os = enumO 0 (cObs s.1)) ?_
  refine ACalls_intro Try.func25 (by kernel_rfl) rfl (by rw [Try.ntmps25]; simp) (fun hm => ?_)
  simp only [Try.ntmps25, Try.results25, List.length_cons, List.length_nil, Nat.reduceAdd, Nat.reduceSub, List.replicate_succ, List.replicate_zero, List.cons_append, List.nil_append]
  simp only [cObs, enumO, Nat.reduceAdd]
  iterate 2 (refine AWp_seqK fun Y0 y0 => ?_; refine AWp_region ?_; simp only [↓aops, ↓aop, ↓aWant, ↓aVal, go_sem, seval]; refine y0 _ ?_; (try clear y0 Y0))
  refine AWp_seqK fun Y0 y0 => ?_
  refine AWp_seqK fun Y1 y1 => ?_
  refine AWp_region ?_
  refine aops_chunk 1 fun Q0 q0 => ?_
  simp only [↓aops, ↓aop, ↓aWant, ↓aVal, go_sem, seval]
  refine q0 _ ?_
  clear q0 Q0
  simp only [go_sem]
  refine aops_chunk 1 fun Q0 q0 => ?_
  simp only [↓aops, ↓aop, ↓aWant, ↓aVal, go_sem, seval]
  refine CCalls.at (CVars2_c S (fun hc => absurd hc (by rw [h]; decide)) (fun hc => absurd hc (by rw [h]; decide))) (.nil) (fun _ => dataInts _) (i0 := 0) (i1 := 1) (i2 := 2) (i3 := 3) (i4 := 4) (i5 := 5) (i6 := 6) (i7 := 7) (by decide) (by simp) ⟨rfl, rfl, rfl, rfl, rfl, rfl, rfl, rfl, trivial⟩ (fun Z9 u9 hZ9 => ?_)
  try dsimp only at hZ9
  simp only [cObsAt, List.zip_cons_cons, List.zip_nil_left, List.zip_nil_right, putsO, putO, Nat.reduceEqDiff, ↓reduceIte]
  obtain rfl : S = Z9 := hZ9.symm
  rw [if_pos h]
  try simp only [bS, bA, thenQ, blockQ, noGotoQ]
  refine q0 _ ?_
  clear q0 Q0
  simp only [go_sem]
  refine aops_chunk 1 fun Q0 q0 => ?_
  simp only [↓aops, ↓aop, ↓aWant, ↓aVal, go_sem, seval]
  refine q0 _ ?_
  clear q0 Q0
  simp only [go_sem]
  simp only [↓aops, ↓aop, ↓aWant, ↓aVal, go_sem, seval]
  refine y1 _ ?_
  try clear y1 Y1
  refine AWp_block ?_
  refine AWp_loopM (σ := Unit) (mB 25 3619) (fun s => True) (fun s => []) (fun s => []) (fun s => 0) () (trivial) ?_ (fun s hs => ?_)
  ·
   simp only [maskL, setsL, putsO, putO, mB, List.set_cons_zero, List.set_cons_succ, seval]
   exact Weak.mk (by simp only [go_sem, Le.refl, Le.any, Le.slNil, Int.natCast_add, Int.cast_ofNat_Int, Int.natCast_one]) (fun _ _ h => h) rfl rfl
  simp only [maskL, setsL, putsO, putO, mB, List.set_cons_zero, List.set_cons_succ, seval]
  refine AWp_seqK fun Y1 y1 => ?_
  refine AWp_region ?_
  simp only [↓aops, ↓aop, ↓aWant, ↓aVal, go_sem, seval]
  refine y1 _ ?_
  try clear y1 Y1
  refine AWp_seqK fun Y1 y1 => ?_
  refine AWp_cond rfl (fun hb12 => ?_) (fun hb12 => ?_)
  ·
   exact absurd hb12 (by simp)
  ·
   refine AWp_exit ?_
   simp only [thenQ, blockQ, noGotoQ, bA, Nat.reduceEqDiff, ↓reduceIte]
   refine y0 _ ?_
   try clear y0 Y0
   refine AWp_seqK fun Y0 y0 => ?_
   refine AWp_region ?_
   refine aops_chunk 1 fun Q0 q0 => ?_
   simp only [↓aops, ↓aop, ↓aWant, ↓aVal, go_sem, seval]
   refine q0 _ ?_
   clear q0 Q0
   simp only [go_sem]
   simp only [↓aops, ↓aop, ↓aWant, ↓aVal, go_sem, seval]
   refine y0 _ ?_
   try clear y0 Y0
   refine AWp_ret ?_
   try simp only [thenQ, blockQ, noGotoQ, retQ, aRes, tupOf, bS, bA]
   refine ⟨_, enumO 0 (cObs (S)), ⟨(S, ()), ?_, rfl, rfl⟩, Und.data (dataInts _), cUnd (by omega) _, ?_, ?_, by omega⟩
   · exact rfl
   ·
    exact Le.slNil 1
   · first | (refine ⟨0, rfl, rfl⟩) | (refine ⟨0, by simp only [cObs, enumO, List.drop_zero, List.drop_succ_cons, Nat.reduceAdd], rfl⟩)
theorem CSteps_c (S : CS) : CCalls (σ := Unit) 19 [.ptr 0 0] (S) (fun s => s.1 = S) (fun s => .v (.int .i64 S.steps)) := by
  refine ACalls.clean (C := fun r os => ∃ s : CS × Unit, (s.1 = S) ∧ r = (fun s : Unit => .v (.int .i64 S.steps)) s.2 ∧ os = enumO 0 (cObs s.1)) ?_
  refine ACalls_intro Try.func19 (by kernel_rfl) rfl (by rw [Try.ntmps19]; simp) (fun hm => ?_)
  simp only [Try.ntmps19, Try.results19, List.length_cons, List.length_nil, Nat.reduceAdd, Nat.reduceSub, List.replicate_succ, List.replicate_zero, List.cons_append, List.nil_append]
  simp only [cObs, enumO, Nat.reduceAdd]
  refine AWp_seqK fun Y0 y0 => ?_
  refine AWp_region ?_
  simp only [↓aops, ↓aop, ↓aWant, ↓aVal, go_sem, seval]
  refine y0 _ ?_
  try clear y0 Y0
  refine AWp_seqK fun Y0 y0 => ?_
  refine AWp_seqK fun Y1 y1 => ?_
  refine AWp_region ?_
  refine aops_chunk 1 fun Q0 q0 => ?_
  simp only [↓aops, ↓aop, ↓aWant, ↓aVal, go_sem, seval]
  refine q0 _ ?_
  clear q0 Q0
  simp only [go_sem]
  simp only [↓aops, ↓aop, ↓aWant, ↓aVal, go_sem, seval]
  refine y1 _ ?_
  try clear y1 Y1
  refine AWp_cond rfl (fun hb4 => ?_) (fun hb4 => ?_)
  ·
   exact absurd hb4 (by simp)
  ·
   refine AWp_skip ?_
   try simp only [thenQ, blockQ, noGotoQ]
   refine y0 _ ?_
   try clear y0 Y0
   refine AWp_seqK fun Y0 y0 => ?_
   refine AWp_region ?_
   iterate 5 (refine aops_chunk 1 fun Q0 q0 => ?_; simp only [↓aops, ↓aop, ↓aWant, ↓aVal, go_sem, seval]; refine q0 _ ?_; clear q0 Q0; simp only [go_sem])
   simp only [↓aops, ↓aop, ↓aWant, ↓aVal, go_sem, seval]
   refine y0 _ ?_
   try clear y0 Y0
   refine AWp_ret ?_
   try simp only [thenQ, blockQ, noGotoQ, retQ, aRes, tupOf, bS, bA]
   refine ⟨_, enumO 0 (cObs (S)), ⟨(S, ()), ?_, rfl, rfl⟩, .v _ _, cUnd (by omega) _, ?_, ?_, by omega⟩
   · exact rfl
   ·
    exact Le.refl _
   · first | (refine ⟨0, rfl, rfl⟩) | (refine ⟨0, by simp only [cObs, enumO, List.drop_zero, List.drop_succ_cons, Nat.reduceAdd], rfl⟩)
end Go.Proofs.Ytjjjckjebkmnjaa
namespace Go.Proofs.Ytjjjckjebkmnjaa
open Go Go.RowKit
set_option maxRecDepth 100000
set_option maxHeartbeats 4000000
set_option linter.unusedSimpArgs false
set_option linter.unusedVariables false
attribute [local irreducible] aops dRun
theorem awake12_pure : APure Try.prog 10 [] (.v (.bool true)) := by
  refine APure.mkL (.nil) (.v _) ?_
  refine ACalls_intro Try.func10 (by kernel_rfl) rfl (by rw [Try.ntmps10]; simp) (fun hm => ?_)
  simp only [Try.ntmps10, Try.results10, List.length_cons, List.length_nil, Nat.reduceAdd, Nat.reduceSub, List.replicate_succ, List.replicate_zero, List.cons_append, List.nil_append]
  refine AWp_seqK fun Y0 y0 => ?_
  refine AWp_region ?_
  simp only [↓aops, ↓aop, ↓aWant, ↓aVal, go_sem, seval]
  refine y0 _ ?_
  try clear y0 Y0
  refine AWp_seqK fun Y0 y0 => ?_
  refine AWp_region ?_
  refine aops_chunk 1 fun Q0 q0 => ?_
  simp only [↓aops, ↓aop, ↓aWant, ↓aVal, go_sem, seval]
  refine VNew_calls.mono ?_
  rintro r os' nx' ⟨⟨rfl, rfl⟩, rfl⟩
  try simp only [bS, bA, thenQ, blockQ, noGotoQ]
  refine q0 _ ?_
  clear q0 Q0
  simp only [go_sem]
  simp only [↓aops, ↓aop, ↓aWant, ↓aVal, go_sem, seval]
  refine y0 _ ?_
  try clear y0 Y0
  refine AWp_weak (Weak.rowCell 3 1 0 (id := 0) rfl rfl) ?_
  simp only [newOs, putO, Nat.reduceEqDiff, ↓reduceIte, List.set_cons_zero, List.set_cons_succ]
  refine AWp_weak (Weak.rowCell 3 1 1 (id := 0) rfl rfl) ?_
  simp only [putO, Nat.reduceEqDiff, ↓reduceIte, List.set_cons_zero, List.set_cons_succ]
  refine AWp_weak (Weak.rowCell 3 1 3 (id := 3) rfl rfl) ?_
  simp only [putO, Nat.reduceEqDiff, ↓reduceIte, List.set_cons_zero, List.set_cons_succ]
  refine AWp_weak (Weak.tokCell 128 4 (id := 2) (t := 118) [.osl 7 4 ([].map GNode.cells), .map 1] rfl ⟨.inr ⟨rfl, rfl⟩, .inl (.refl _), trivial⟩) ?_
  simp only [putO, Nat.reduceEqDiff, ↓reduceIte, List.set_cons_zero, List.set_cons_succ]
  refine AWp_seqK fun Y0 y0 => ?_
  refine AWp_region ?_
  iterate 5 (refine aops_chunk 1 fun Q0 q0 => ?_; simp only [↓aops, ↓aop, ↓aWant, ↓aVal, go_sem, seval]; refine q0 _ ?_; clear q0 Q0; simp only [go_sem])
  simp only [↓aops, ↓aop, ↓aWant, ↓aVal, go_sem, seval]
  refine y0 _ ?_
  try clear y0 Y0
  refine AWp_weak (Weak.recell (id := 8) (t := 30) [.v (.int .i64 2), .v (.int .i64 0), .sl 3 []] rfl ⟨.refl _, .refl _, Le.slNil 3, trivial⟩) ?_
  simp only [putO, Nat.reduceEqDiff, ↓reduceIte]
  refine AWp_weak (Weak.recell (id := 9) (t := 30) [.v (.int .i64 3), .v (.int .i64 0), .sl 3 []] rfl ⟨.refl _, .refl _, Le.slNil 3, trivial⟩) ?_
  simp only [putO, Nat.reduceEqDiff, ↓reduceIte]
  refine AWp_seqK fun Y0 y0 => ?_
  refine AWp_drawK 6 mixed (by kernel_rfl) fun J0 j0 => ?_
  simp only [go_sem]
  refine dRun_chunk 1 fun Q0 q0 => ?_
  simp only [↓dRun, ↓dOp, ↓aops, ↓aop, ↓aWant, ↓aVal, go_sem, seval]
  refine q0 _ ?_
  clear q0 Q0
  simp only [go_sem]
  refine dRun_chunk 1 fun Q0 q0 => ?_
  simp only [↓dRun, ↓dOp, ↓aops, ↓aop, ↓aWant, ↓aVal, go_sem, seval]
  refine ⟨_, TVar_pure 0, ?_⟩
  try simp only [bS, bA, thenQ, blockQ, noGotoQ]
  iterate 2 (refine q0 _ ?_; clear q0 Q0; simp only [go_sem]; refine dRun_chunk 1 fun Q0 q0 => ?_; simp only [↓dRun, ↓dOp, ↓aops, ↓aop, ↓aWant, ↓aVal, go_sem, seval])
  refine ⟨_, TVar_pure 1, ?_⟩
  try simp only [bS, bA, thenQ, blockQ, noGotoQ]
  refine q0 _ ?_
  clear q0 Q0
  simp only [go_sem]
  refine dRun_chunk 1 fun Q0 q0 => ?_
  simp only [↓dRun, ↓dOp, ↓aops, ↓aop, ↓aWant, ↓aVal, go_sem, seval, ↓bs2_1, ↓bs2_2, ↓bs2_3, ↓bs2_4, ↓bs2_5, ↓bs2_6, ↓bs2_7, ↓bs2_8, ↓bs2_9, ↓bs2_10, ↓bs2_11, ↓bs2_12]
  refine q0 _ ?_
  clear q0 Q0
  simp only [go_sem]
  simp only [↓dRun, ↓dOp, ↓aops, ↓aop, ↓aWant, ↓aVal, go_sem, seval]
  refine ⟨_, Arrow_pure 2 [.mk 2 0 [], .mk 1 1 []] rfl (by decide), ?_⟩
  try simp only [bS, bA, thenQ, blockQ, noGotoQ]
  refine j0 _ ?_
  clear j0 J0
  simp only [go_sem]
  refine aops_chunk 1 fun Q0 q0 => ?_
  simp only [↓aops, ↓aop, ↓aWant, ↓aVal, go_sem, seval]
  refine CCalls.at (Equate_c CS0 (nat2 (eqF []).2) (eqF []).1 (.mk 1 0 []) (arrowL [.mk 2 0 [], .mk 1 1 []]) (fun _ => Holds.none.2) (by decide) (by decide) (by decide)) (.cons (Ty.dataAgg _) (.cons (Ty.dataAgg _) .nil)) (fun _ => .v _) (i0 := 3) (i1 := 2) (i2 := 7) (i3 := 1) (i4 := 0) (i5 := 4) (i6 := 5) (i7 := 6) (by decide) (by simp) ⟨rfl, rfl, rfl, rfl, rfl, rfl, rfl, rfl, trivial⟩ (fun S1 r1 hE1 => ?_)
  try dsimp only at hE1
  simp only [cObsAt, List.zip_cons_cons, List.zip_nil_left, List.zip_nil_right, putsO, putO, Nat.reduceEqDiff, ↓reduceIte]
  obtain ⟨he1, hH1, hl1⟩ := aw_step1 hE1
  obtain rfl : r1 = 0 := he1
  dsimp only at hH1 hl1
  try simp only [bS, bA, thenQ, blockQ, noGotoQ]
  refine q0 _ ?_
  clear q0 Q0
  simp only [go_sem]
  simp only [↓aops, ↓aop, ↓aWant, ↓aVal, go_sem, seval]
  refine y0 _ ?_
  try clear y0 Y0
  refine AWp_seqK fun Y0 y0 => ?_
  refine AWp_drawK 6 mixed (by kernel_rfl) fun J0 j0 => ?_
  simp only [go_sem]
  refine dRun_chunk 1 fun Q0 q0 => ?_
  simp only [↓dRun, ↓dOp, ↓aops, ↓aop, ↓aWant, ↓aVal, go_sem, seval]
  refine q0 _ ?_
  clear q0 Q0
  simp only [go_sem]
  refine dRun_chunk 1 fun Q0 q0 => ?_
  simp only [↓dRun, ↓dOp, ↓aops, ↓aop, ↓aWant, ↓aVal, go_sem, seval]
  refine ⟨_, TVar_pure 0, ?_⟩
  try simp only [bS, bA, thenQ, blockQ, noGotoQ]
  refine q0 _ ?_
  clear q0 Q0
  simp only [go_sem]
  refine dRun_chunk 1 fun Q0 q0 => ?_
  simp only [↓dRun, ↓dOp, ↓aops, ↓aop, ↓aWant, ↓aVal, go_sem, seval]
  refine ⟨_, TVar_pure 2, ?_⟩
  try simp only [bS, bA, thenQ, blockQ, noGotoQ]
  refine q0 _ ?_
  clear q0 Q0
  simp only [go_sem]
  refine dRun_chunk 1 fun Q0 q0 => ?_
  simp only [↓dRun, ↓dOp, ↓aops, ↓aop, ↓aWant, ↓aVal, go_sem, seval]
  refine q0 _ ?_
  clear q0 Q0
  simp only [go_sem]
  refine dRun_chunk 1 fun Q0 q0 => ?_
  simp only [↓dRun, ↓dOp, ↓aops, ↓aop, ↓aWant, ↓aVal, go_sem, seval, ↓bs2_1, ↓bs2_2, ↓bs2_3, ↓bs2_4, ↓bs2_5, ↓bs2_6, ↓bs2_7, ↓bs2_8, ↓bs2_9, ↓bs2_10, ↓bs2_11, ↓bs2_12]
  refine q0 _ ?_
  clear q0 Q0
  simp only [go_sem]
  simp only [↓dRun, ↓dOp, ↓aops, ↓aop, ↓aWant, ↓aVal, go_sem, seval]
  refine ⟨_, Arrow_pure 2 [.mk 1 2 [], .mk 3 0 []] rfl (by decide), ?_⟩
  try simp only [bS, bA, thenQ, blockQ, noGotoQ]
  refine j0 _ ?_
  clear j0 J0
  simp only [go_sem]
  refine aops_chunk 1 fun Q0 q0 => ?_
  simp only [↓aops, ↓aop, ↓aWant, ↓aVal, go_sem, seval]
  refine CCalls.at (Equate_c S1 (nat2 (eqF [aw1]).2) (eqF [aw1]).1 (.mk 1 0 []) (arrowL [.mk 1 2 [], .mk 3 0 []]) (fun _ => hH1.2) (by simp only [Ty.cnt, Ty.cntL, arrowL]; omega) (by decide) (by decide)) (.cons (Ty.dataAgg _) (.cons (Ty.dataAgg _) .nil)) (fun _ => .v _) (i0 := 3) (i1 := 2) (i2 := 7) (i3 := 1) (i4 := 0) (i5 := 4) (i6 := 5) (i7 := 6) (by decide) (by simp) ⟨rfl, rfl, rfl, rfl, rfl, rfl, rfl, rfl, trivial⟩ (fun S2 r2 hE2 => ?_)
  try dsimp only at hE2
  simp only [cObsAt, List.zip_cons_cons, List.zip_nil_left, List.zip_nil_right, putsO, putO, Nat.reduceEqDiff, ↓reduceIte]
  obtain ⟨he2, hH2⟩ := aw_step2 hH1 hE2
  obtain rfl : r2 = 0 := he2
  dsimp only at hH2
  have hG2 := hH2.aw.2
  try simp only [bS, bA, thenQ, blockQ, noGotoQ]
  refine q0 _ ?_
  clear q0 Q0
  simp only [go_sem]
  simp only [↓aops, ↓aop, ↓aWant, ↓aVal, go_sem, seval]
  refine y0 _ ?_
  try clear y0 Y0
  refine AWp_seqK fun Y0 y0 => ?_
  refine AWp_region ?_
  iterate 3 (refine aops_chunk 1 fun Q0 q0 => ?_; simp only [↓aops, ↓aop, ↓aWant, ↓aVal, go_sem, seval]; refine q0 _ ?_; clear q0 Q0; simp only [go_sem])
  refine aops_case 25 rfl (fun hc25 => ?_) (fun hc25 => ?_)
  ·
   simp only [List.set_cons_zero, List.set_cons_succ]
   iterate 4 (refine aops_chunk 1 fun Q0 q0 => ?_; simp only [↓aops, ↓aop, ↓aWant, ↓aVal, go_sem, seval]; refine q0 _ ?_; clear q0 Q0; simp only [go_sem])
   refine aops_case 29 rfl (fun hc29 => ?_) (fun hc29 => ?_)
   ·
    simp only [List.set_cons_zero, List.set_cons_succ]
    iterate 4 (refine aops_chunk 1 fun Q0 q0 => ?_; simp only [↓aops, ↓aop, ↓aWant, ↓aVal, go_sem, seval]; refine q0 _ ?_; clear q0 Q0; simp only [go_sem])
    refine aops_case 33 rfl (fun hc33 => ?_) (fun hc33 => ?_)
    ·
     simp only [List.set_cons_zero, List.set_cons_succ]
     refine aops_chunk 1 fun Q0 q0 => ?_
     simp only [↓aops, ↓aop, ↓aWant, ↓aVal, go_sem, seval]
     refine q0 _ ?_
     clear q0 Q0
     simp only [go_sem]
     refine aops_chunk 1 fun Q0 q0 => ?_
     simp only [↓aops, ↓aop, ↓aWant, ↓aVal, go_sem, seval]
     refine CCalls.at (CKind_c S2 hG2.w.c.f hG2.w.c.fl hG2.w.c.wr hG2.vin 2) (.cons (.v _) .nil) (fun _ => .v _) (i0 := 3) (i1 := 2) (i2 := 7) (i3 := 1) (i4 := 0) (i5 := 4) (i6 := 5) (i7 := 6) (by decide) (by simp) ⟨rfl, rfl, rfl, rfl, rfl, rfl, rfl, rfl, trivial⟩ (fun S3 k2 hK3 => ?_)
     try dsimp only at hK3
     simp only [cObsAt, List.zip_cons_cons, List.zip_nil_left, List.zip_nil_right, putsO, putO, Nat.reduceEqDiff, ↓reduceIte]
     obtain ⟨hk3, hH3⟩ := aw_kind (s := (S3, k2)) hH2 aw_v2 (by omega) aw_14.symm rfl (by decide) hK3
     obtain rfl : k2 = 2 := hk3
     dsimp only at hH3
     have hG3 := hH3.aw.2
     try simp only [bS, bA, thenQ, blockQ, noGotoQ]
     iterate 3 (refine q0 _ ?_; clear q0 Q0; simp only [go_sem]; refine aops_chunk 1 fun Q0 q0 => ?_; simp only [↓aops, ↓aop, ↓aWant, ↓aVal, go_sem, seval])
     refine q0 _ ?_
     clear q0 Q0
     simp only [go_sem]
     refine aops_case 38 rfl (fun hc38 => ?_) (fun hc38 => ?_)
     ·
      simp only [List.set_cons_zero, List.set_cons_succ]
      refine aops_chunk 1 fun Q0 q0 => ?_
      simp only [↓aops, ↓aop, ↓aWant, ↓aVal, go_sem, seval]
      refine q0 _ ?_
      clear q0 Q0
      simp only [go_sem]
      refine aops_chunk 1 fun Q0 q0 => ?_
      simp only [↓aops, ↓aop, ↓aWant, ↓aVal, go_sem, seval]
      refine CCalls.at (CKind_c S3 hG3.w.c.f hG3.w.c.fl hG3.w.c.wr hG3.vin 1) (.cons (.v _) .nil) (fun _ => .v _) (i0 := 3) (i1 := 2) (i2 := 7) (i3 := 1) (i4 := 0) (i5 := 4) (i6 := 5) (i7 := 6) (by decide) (by simp) ⟨rfl, rfl, rfl, rfl, rfl, rfl, rfl, rfl, trivial⟩ (fun S4 k3 hK4 => ?_)
      try dsimp only at hK4
      simp only [cObsAt, List.zip_cons_cons, List.zip_nil_left, List.zip_nil_right, putsO, putO, Nat.reduceEqDiff, ↓reduceIte]
      obtain ⟨hk4, hH4⟩ := aw_kind (s := (S4, k3)) hH3 aw_v1 (by omega) aw_25 rfl (by decide) hK4
      obtain rfl : k3 = 3 := hk4
      dsimp only at hH4
      have hG4 := hH4.aw.2
      try simp only [bS, bA, thenQ, blockQ, noGotoQ]
      iterate 3 (refine q0 _ ?_; clear q0 Q0; simp only [go_sem]; refine aops_chunk 1 fun Q0 q0 => ?_; simp only [↓aops, ↓aop, ↓aWant, ↓aVal, go_sem, seval])
      refine q0 _ ?_
      clear q0 Q0
      simp only [go_sem]
      refine aops_case 43 rfl (fun hc43 => ?_) (fun hc43 => ?_)
      ·
       simp only [List.set_cons_zero, List.set_cons_succ]
       refine aops_chunk 1 fun Q0 q0 => ?_
       simp only [↓aops, ↓aop, ↓aWant, ↓aVal, go_sem, seval]
       refine q0 _ ?_
       clear q0 Q0
       simp only [go_sem]
       refine aops_chunk 1 fun Q0 q0 => ?_
       simp only [↓aops, ↓aop, ↓aWant, ↓aVal, go_sem, seval]
       refine CCalls.at (CSame_c S4 hG4.w.c.f hG4.vin 1 2) (.cons (.v _) (.cons (.v _) .nil)) (fun _ => .v _) (i0 := 3) (i1 := 2) (i2 := 7) (i3 := 1) (i4 := 0) (i5 := 4) (i6 := 5) (i7 := 6) (by decide) (by simp) ⟨rfl, rfl, rfl, rfl, rfl, rfl, rfl, rfl, trivial⟩ (fun S5 b5 hS5 => ?_)
       try dsimp only at hS5
       simp only [cObsAt, List.zip_cons_cons, List.zip_nil_left, List.zip_nil_right, putsO, putO, Nat.reduceEqDiff, ↓reduceIte]
       obtain rfl : b5 = false := aw_same (s := (S5, b5)) hH4 hS5
       try simp only [bS, bA, thenQ, blockQ, noGotoQ]
       iterate 2 (refine q0 _ ?_; clear q0 Q0; simp only [go_sem]; refine aops_chunk 1 fun Q0 q0 => ?_; simp only [↓aops, ↓aop, ↓aWant, ↓aVal, go_sem, seval])
       refine q0 _ ?_
       clear q0 Q0
       simp only [go_sem]
       simp only [↓aops, ↓aop, ↓aWant, ↓aVal, go_sem, seval]
       refine y0 _ ?_
       try clear y0 Y0
       refine AWp_ret ?_
       try simp only [thenQ, blockQ, noGotoQ, retQ, aRes, tupOf, bS, bA]
       exact Le.refl _
      ·
       simp only [List.set_cons_zero, List.set_cons_succ]
       exact absurd hc43 (by decide)
     ·
      simp only [List.set_cons_zero, List.set_cons_succ]
      exact absurd hc38 (by decide)
    ·
     simp only [List.set_cons_zero, List.set_cons_succ]
     exact absurd hc33 (by decide)
   ·
    simp only [List.set_cons_zero, List.set_cons_succ]
    exact absurd hc29 (by decide)
  ·
   simp only [List.set_cons_zero, List.set_cons_succ]
   exact absurd hc25 (by decide)
end Go.Proofs.Ytjjjckjebkmnjaa
namespace Go.Proofs.Ytjjjckjebkmnjaa
open Go Go.RowKit
set_option maxRecDepth 100000
set_option maxHeartbeats 4000000
set_option linter.unusedSimpArgs false
set_option linter.unusedVariables false
attribute [local irreducible] aops dRun
def Ty.big (t : Ty) : Bool := decide (t.room 100 30 < 0)
theorem Ty.big_cnt {t : Ty} (h : t.big = false) : t.cnt ≤ 100 := by
  simp only [Ty.big, decide_eq_false_iff_not] at h
  have := Ty.room_cnt t 100 30 (by omega) (by omega)
  omega
def bigE (e : Ty × Ty) : Bool := e.1.big || e.2.big
def greatE (l : List (Ty × Ty)) : Bool := (l.take 30).any bigE || decide (20 < l.length) || decide (160 < sumP (l.take 30))
theorem greatE_true {l : List (Ty × Ty)} {s : Nat} {e : Ty × Ty} (hp : l[s]? = some e) (hs : s < 30) (h : bigE e = true) : greatE l = true := by
  have h1 : (l.take 30).any bigE = true := all_not_of (i := s) (p := e) (by rw [List.getElem?_take, if_pos hs]; exact hp) h
  simp only [greatE, h1, Bool.true_or]
theorem greatE_end {l : List (Ty × Ty)} {s : Nat} (hs : ¬ (s < l.length ∧ s < 30)) (h1 : s ≤ l.length) (h2 : s ≤ 30) (h : ∀ (i : Nat) (p : Ty × Ty), i < s → l[i]? = some p → bigE p = false) :
    greatE l = (decide (20 < l.length) || decide (160 < sumP (l.take s))) := by
  have e : l.take 30 = l.take s := by
    rcases Nat.lt_or_ge s 30 with h3 | h3
    · have h4 : s = l.length := by omega
      subst h4
      rw [List.take_length, List.take_of_length_le (by omega)]
    · rw [show s = 30 by omega]
  have h0 : (l.take s).any bigE = false := any_false_of fun i p hi hp => by
    rw [List.getElem?_take] at hp
    split at hp
    · exact h i p (by assumption) hp
    · cases hp
  simp only [greatE, e, h0, Bool.false_or]
theorem greatE_spec {l : List (Ty × Ty)} (h : greatE l = false) : l.length ≤ 20 ∧ sumP l ≤ 160 := by
  simp only [greatE, Bool.or_eq_false_iff, decide_eq_false_iff_not] at h
  obtain ⟨⟨h1, h2⟩, h3⟩ := h
  rw [List.take_of_length_le (by omega)] at h3
  exact ⟨by omega, by omega⟩
theorem sumP_step {l : List (Ty × Ty)} {s : Nat} {e : Ty × Ty} (h : l[s]? = some e) : sumP (l.take (s + 1)) = sumP (l.take s) + (e.1.cnt + e.2.cnt) := by
  rw [List.take_add_one, h]
  exact sumP_snoc _ _
theorem room12_pure : ∀ (T : Ty) (n : Int) (d : Nat) (hn : 0 ≤ n) (hn2 : n ≤ 1099511627776) (hd : d ≤ 1099511627776), APure Try.prog 68 [.agg T.cells, .v (.int .i64 n), .v (.int .i64 d)] (.v (.int .i64 (T.room n d))) := by
  refine Ty.ind fun T ih => ?_
  intro n d hn hn2 hd
  refine APure.mkL (.cons T.dataAgg (.cons (.v _) (.cons (.v _) .nil))) (.v _) ?_
  refine ACalls_intro Try.func68 (by kernel_rfl) rfl (by rw [Try.ntmps68]; simp) (fun hm => ?_)
  simp only [Try.ntmps68, Try.results68, List.length_cons, List.length_nil, Nat.reduceAdd, Nat.reduceSub, List.replicate_succ, List.replicate_zero, List.cons_append, List.nil_append]
  have hm1 := hm.wide (t := T) (by simp)
  have hw1 : IntKind.i64.wrap (n - 1) = n - 1 := wrap_in (by omega) (by omega)
  iterate 2 (refine AWp_seqK fun Y0 y0 => ?_; refine AWp_region ?_; simp only [↓aops, ↓aop, ↓aWant, ↓aVal, go_sem, seval, hw1]; refine y0 _ ?_; (try clear y0 Y0))
  refine AWp_seqK fun Y0 y0 => ?_
  refine AWp_seqK fun Y1 y1 => ?_
  refine AWp_region ?_
  simp only [↓aops, ↓aop, ↓aWant, ↓aVal, go_sem, seval, hw1]
  refine y1 _ ?_
  try clear y1 Y1
  refine AWp_cond rfl (fun hb11 => ?_) (fun hb11 => ?_)
  ·
   have hd0 : d = 0 := by simpa using hb11
   refine AWp_seqK fun Y1 y1 => ?_
   refine AWp_region ?_
   simp only [↓aops, ↓aop, ↓aWant, ↓aVal, go_sem, seval, hw1]
   refine y1 _ ?_
   try clear y1 Y1
   refine AWp_ret ?_
   try simp only [thenQ, blockQ, noGotoQ, retQ, aRes, tupOf, bS, bA]
   refine Le.of_eq (congrArg (fun n => AV.v (.int .i64 n)) ?_)
   first | (rw [hd0, Ty.room_zero]; done) | skip
   all_goals (rw [Ty.room_succ]; simp only [decide_eq_false_iff_not] at hb20; rcases Nat.lt_or_ge s T.ps.length with h5 | h5 <;> first | (rw [List.take_of_length_le h5]; done) | (rw [Ty.roomL_stop T.ps s _ _ (by omega)]; done))
  ·
   obtain ⟨e, rfl⟩ : ∃ e, d = e + 1 := ⟨d - 1, by simp at hb11; omega⟩
   have hw2 : IntKind.i64.wrap ((e : Int) + 1 - 1) = (e : Int) := by rw [wrap_in (by omega) (by omega)]; omega
   refine AWp_skip ?_
   try simp only [thenQ, blockQ, noGotoQ]
   refine y0 _ ?_
   try clear y0 Y0
   refine AWp_seqK fun Y0 y0 => ?_
   refine AWp_seqK fun Y1 y1 => ?_
   refine AWp_region ?_
   simp only [↓aops, ↓aop, ↓aWant, ↓aVal, go_sem, seval, hw1]
   refine y1 _ ?_
   try clear y1 Y1
   refine AWp_block ?_
   refine AWp_loopM (σ := Nat) (mB 33 142) (fun s => s ≤ T.ps.length) (fun s => [(1, .v (.int .i64 (Ty.roomL (T.ps.take s) (n - 1) e))), (7, .v (.int .i64 (s : Int)))]) (fun s => []) (fun s => T.ps.length - s) 0 (by omega) ?_ (fun s hs => ?_)
   ·
    simp only [maskL, setsL, putsO, putO, mB, List.set_cons_zero, List.set_cons_succ, seval, bL, Ty.roomL]
    exact Weak.mk (by simp only [go_sem, Le.refl, Le.any, Le.slNil, Int.natCast_add, Int.cast_ofNat_Int, Int.natCast_one]) (fun _ _ h => h) rfl rfl
   simp only [maskL, setsL, putsO, putO, mB, List.set_cons_zero, List.set_cons_succ, seval]
   refine AWp_seqK fun Y1 y1 => ?_
   refine AWp_joinM (mB 33 1048718) ([(20, .v (.bool (decide (s < T.ps.length ∧ 0 ≤ Ty.roomL (T.ps.take s) (n - 1) e))))]) ([]) ?_ ?_
   ·
    refine AWp_region ?_
    refine aops_chunk 4 fun Q0 q0 => ?_
    simp only [↓aops, ↓aop, ↓aWant, ↓aVal, go_sem, seval, hw1]
    refine q0 _ ?_
    clear q0 Q0
    simp only [go_sem]
    refine aops_chunk 2 fun Q0 q0 => ?_
    simp only [↓aops, ↓aop, ↓aWant, ↓aVal, go_sem, seval, hw1]
    refine q0 _ ?_
    clear q0 Q0
    simp only [go_sem]
    refine aops_case 17 rfl (fun hc17 => ?_) (fun hc17 => ?_)
    ·
     simp only [List.set_cons_zero, List.set_cons_succ]
     simp only [↓aops, ↓aop, ↓aWant, ↓aVal, go_sem, seval, hw1]
     try simp only [maskL, setsL, putsO, putO, mB, List.set_cons_zero, List.set_cons_succ, seval]
     refine Weak.mk ?_ (fun _ _ h => h) rfl rfl
     simp only [go_sem, Le.refl, Le.any]
     all_goals (refine Le.of_eq (congrArg (fun b => AV.v (.bool b)) ?_); rw [Bool.eq_iff_iff]; simp only [decide_eq_true_eq, decide_eq_false_iff_not, ge_iff_le, Bool.false_eq_true, false_iff, Int.ofNat_lt] at *; omega)
    ·
     simp only [List.set_cons_zero, List.set_cons_succ]
     simp only [↓aops, ↓aop, ↓aWant, ↓aVal, go_sem, seval, hw1]
     try simp only [maskL, setsL, putsO, putO, mB, List.set_cons_zero, List.set_cons_succ, seval]
     refine Weak.mk ?_ (fun _ _ h => h) rfl rfl
     simp only [go_sem, Le.refl, Le.any]
     all_goals (refine Le.of_eq (congrArg (fun b => AV.v (.bool b)) ?_); rw [Bool.eq_iff_iff]; simp only [decide_eq_true_eq, decide_eq_false_iff_not, ge_iff_le, Bool.false_eq_true, false_iff, Int.ofNat_lt] at *; omega)
   simp only [maskL, setsL, putsO, putO, mB, List.set_cons_zero, List.set_cons_succ, seval]
   refine AWp_cond rfl (fun hb20 => ?_) (fun hb20 => ?_)
   ·
    have hk : s < T.ps.length := by simp only [decide_eq_true_eq] at hb20; exact hb20.1
    obtain ⟨p, hp⟩ : ∃ p, T.ps[s]? = some p := ⟨_, List.getElem?_eq_getElem hk⟩
    have hw : IntKind.i64.wrap ((s : Int) + 1) = (s : Int) + 1 := wrap_in (by omega) (by have := hm1.len; simp only [maxLen] at this; omega)
    have hrm : 0 ≤ Ty.roomL (T.ps.take s) (n - 1) e := by simp only [decide_eq_true_eq] at hb20; exact hb20.2
    have hrl := Ty.roomL_le (T.ps.take s) (n - 1) e (by omega)
    refine AWp_skip ?_
    try simp only [thenQ, blockQ, noGotoQ]
    refine y1 _ ?_
    try clear y1 Y1
    refine AWp_seqK fun Y1 y1 => ?_
    refine AWp_block ?_
    refine AWp_region ?_
    iterate 2 (refine aops_chunk 4 fun Q0 q0 => ?_; simp only [↓aops, ↓aop, ↓aWant, ↓aVal, go_sem, seval, hw1, hk, gM hp, Int.natCast_add, hw, Ty.roomL_step hp (n - 1) e hrm, hw2]; refine q0 _ ?_; clear q0 Q0; simp only [go_sem])
    refine aops_chunk 1 fun Q0 q0 => ?_
    simp only [↓aops, ↓aop, ↓aWant, ↓aVal, go_sem, seval, hw1, hk, gM hp, Int.natCast_add, hw, Ty.roomL_step hp (n - 1) e hrm, hw2]
    refine APure.call (ih p (List.mem_of_getElem? hp) _ e hrm (by omega) (by omega)) ?_
    try simp only [bS, bA, thenQ, blockQ, noGotoQ]
    refine q0 _ ?_
    clear q0 Q0
    simp only [go_sem]
    simp only [↓aops, ↓aop, ↓aWant, ↓aVal, go_sem, seval, hw1, hk, gM hp, Int.natCast_add, hw, Ty.roomL_step hp (n - 1) e hrm, hw2]
    refine y1 _ ?_
    try clear y1 Y1
    refine AWp_region ?_
    simp only [↓aops, ↓aop, ↓aWant, ↓aVal, go_sem, seval, hw1, hk, gM hp, Int.natCast_add, hw, Ty.roomL_step hp (n - 1) e hrm, hw2]
    refine ⟨(s + 1), (by omega), by omega, ?_⟩
    simp only [maskL, setsL, putsO, putO, mB, List.set_cons_zero, List.set_cons_succ, seval, hk, gM hp, Int.natCast_add, Int.natCast_one, hw, Ty.roomL_step hp (n - 1) e hrm, hw2]
    exact Weak.mk (by simp only [go_sem, Le.refl, Le.any, Le.slNil, Int.natCast_add, Int.cast_ofNat_Int, Int.natCast_one]) (fun _ _ h => h) rfl rfl
   ·
    refine AWp_exit ?_
    simp only [thenQ, blockQ, noGotoQ, bA, Nat.reduceEqDiff, ↓reduceIte]
    refine y0 _ ?_
    try clear y0 Y0
    refine AWp_seqK fun Y0 y0 => ?_
    refine AWp_region ?_
    simp only [↓aops, ↓aop, ↓aWant, ↓aVal, go_sem, seval, hw1]
    refine y0 _ ?_
    try clear y0 Y0
    refine AWp_ret ?_
    try simp only [thenQ, blockQ, noGotoQ, retQ, aRes, tupOf, bS, bA]
    refine Le.of_eq (congrArg (fun n => AV.v (.int .i64 n)) ?_)
    first | (rw [hd0, Ty.room_zero]; done) | skip
    all_goals (rw [Ty.room_succ]; simp only [decide_eq_false_iff_not] at hb20; rcases Nat.lt_or_ge s T.ps.length with h5 | h5 <;> first | (rw [List.take_of_length_le h5]; done) | (rw [Ty.roomL_stop T.ps s _ _ (by omega)]; done))
theorem big12_pure (T : Ty) : APure Try.prog 38 [.agg T.cells] (.v (.bool T.big)) := by
  refine APure.mkL (.cons T.dataAgg .nil) (.v _) ?_
  refine ACalls_intro Try.func38 (by kernel_rfl) rfl (by rw [Try.ntmps38]; simp) (fun hm => ?_)
  simp only [Try.ntmps38, Try.results38, List.length_cons, List.length_nil, Nat.reduceAdd, Nat.reduceSub, List.replicate_succ, List.replicate_zero, List.cons_append, List.nil_append]
  simp only [Ty.cells_eq T, List.cons_append, List.nil_append]
  refine AWp_seqK fun Y0 y0 => ?_
  refine AWp_region ?_
  simp only [↓aops, ↓aop, ↓aWant, ↓aVal, go_sem, seval]
  refine y0 _ ?_
  try clear y0 Y0
  refine AWp_seqK fun Y0 y0 => ?_
  refine AWp_region ?_
  refine aops_chunk 1 fun Q0 q0 => ?_
  simp only [↓aops, ↓aop, ↓aWant, ↓aVal, go_sem, seval]
  refine q0 _ ?_
  clear q0 Q0
  simp only [go_sem]
  refine aops_chunk 1 fun Q0 q0 => ?_
  simp only [↓aops, ↓aop, ↓aWant, ↓aVal, go_sem, seval]
  refine APure.call (by have h9 := room12_pure T 100 30 (by omega) (by omega) (by omega); rw [Ty.cells_eq T] at h9; exact h9) ?_
  try simp only [bS, bA, thenQ, blockQ, noGotoQ]
  refine q0 _ ?_
  clear q0 Q0
  simp only [go_sem]
  simp only [↓aops, ↓aop, ↓aWant, ↓aVal, go_sem, seval]
  refine y0 _ ?_
  try clear y0 Y0
  refine AWp_ret ?_
  try simp only [thenQ, blockQ, noGotoQ, retQ, aRes, tupOf, bS, bA]
  exact Le.of_eq (congrArg (fun b => AV.v (.bool b)) rfl)
theorem Great12_pure (es : List EqT) : APure Try.prog 9 [.sl 8 (es.map EqT.cells)] (.v (.bool (greatE (es.map EqT.p)))) := by
  refine APure.mkL (.cons (EqT.dataSl es) .nil) (.v _) ?_
  refine ACalls_intro Try.func9 (by kernel_rfl) rfl (by rw [Try.ntmps9]; simp) (fun hm => ?_)
  simp only [Try.ntmps9, Try.results9, List.length_cons, List.length_nil, Nat.reduceAdd, Nat.reduceSub, List.replicate_succ, List.replicate_zero, List.cons_append, List.nil_append]
  iterate 2 (refine AWp_seqK fun Y0 y0 => ?_; refine AWp_region ?_; simp only [↓aops, ↓aop, ↓aWant, ↓aVal, go_sem, seval]; refine y0 _ ?_; (try clear y0 Y0))
  refine AWp_seqK fun Y0 y0 => ?_
  refine AWp_seqK fun Y1 y1 => ?_
  refine AWp_region ?_
  simp only [↓aops, ↓aop, ↓aWant, ↓aVal, go_sem, seval]
  refine y1 _ ?_
  try clear y1 Y1
  refine AWp_block ?_
  refine AWp_loopM (σ := Nat) (mB 51 25) (fun s => s ≤ es.length ∧ s ≤ 30 ∧ sumP ((es.map EqT.p).take s) ≤ 200 * s ∧ ∀ (i : Nat) (p : Ty × Ty), i < s → (es.map EqT.p)[i]? = some p → bigE p = false) (fun s => [(3, .v (.int .i64 (sumP ((es.map EqT.p).take s) : Nat))), (4, .v (.int .i64 (s : Int)))]) (fun s => []) (fun s => 30 - s) 0 (⟨by omega, by omega, by simp [sumP], fun i p hi => by omega⟩) ?_ (fun s hs => ?_)
  ·
   simp only [maskL, setsL, putsO, putO, mB, List.set_cons_zero, List.set_cons_succ, seval, bL, sumP, Int.natCast_zero, Int.ofNat_zero, Int.cast_ofNat_Int]
   exact Weak.mk (by simp only [go_sem, Le.refl, Le.any, Le.slNil, Int.natCast_add, Int.cast_ofNat_Int, Int.natCast_one]) (fun _ _ h => h) rfl rfl
  simp only [maskL, setsL, putsO, putO, mB, List.set_cons_zero, List.set_cons_succ, seval]
  refine AWp_seqK fun Y1 y1 => ?_
  refine AWp_joinM (mB 51 4121) ([(12, .v (.bool (decide (s < es.length ∧ s < 30))))]) ([]) ?_ ?_
  ·
   refine AWp_region ?_
   iterate 5 (refine aops_chunk 1 fun Q0 q0 => ?_; simp only [↓aops, ↓aop, ↓aWant, ↓aVal, go_sem, seval]; refine q0 _ ?_; clear q0 Q0; simp only [go_sem])
   refine aops_case 9 rfl (fun hc9 => ?_) (fun hc9 => ?_)
   ·
    simp only [List.set_cons_zero, List.set_cons_succ]
    iterate 2 (refine aops_chunk 1 fun Q0 q0 => ?_; simp only [↓aops, ↓aop, ↓aWant, ↓aVal, go_sem, seval]; refine q0 _ ?_; clear q0 Q0; simp only [go_sem])
    simp only [↓aops, ↓aop, ↓aWant, ↓aVal, go_sem, seval]
    try simp only [maskL, setsL, putsO, putO, mB, List.set_cons_zero, List.set_cons_succ, seval]
    refine Weak.mk ?_ (fun _ _ h => h) rfl rfl
    simp only [go_sem, Le.refl, Le.any]
    all_goals (refine Le.of_eq (congrArg (fun b => AV.v (.bool b)) ?_); rw [Bool.eq_iff_iff]; simp only [decide_eq_true_eq, decide_eq_false_iff_not, Bool.false_eq_true, false_iff, Int.ofNat_lt] at *; omega)
   ·
    simp only [List.set_cons_zero, List.set_cons_succ]
    iterate 2 (refine aops_chunk 1 fun Q0 q0 => ?_; simp only [↓aops, ↓aop, ↓aWant, ↓aVal, go_sem, seval]; refine q0 _ ?_; clear q0 Q0; simp only [go_sem])
    simp only [↓aops, ↓aop, ↓aWant, ↓aVal, go_sem, seval]
    try simp only [maskL, setsL, putsO, putO, mB, List.set_cons_zero, List.set_cons_succ, seval]
    refine Weak.mk ?_ (fun _ _ h => h) rfl rfl
    simp only [go_sem, Le.refl, Le.any]
    all_goals (refine Le.of_eq (congrArg (fun b => AV.v (.bool b)) ?_); rw [Bool.eq_iff_iff]; simp only [decide_eq_true_eq, decide_eq_false_iff_not, Bool.false_eq_true, false_iff, Int.ofNat_lt] at *; omega)
  simp only [maskL, setsL, putsO, putO, mB, List.set_cons_zero, List.set_cons_succ, seval]
  refine AWp_cond rfl (fun hb12 => ?_) (fun hb12 => ?_)
  ·
   have hk0 : s < es.length ∧ s < 30 := by simpa using hb12
   have hk : s < es.length := hk0.1
   obtain ⟨e, he⟩ : ∃ e, es[s]? = some e := ⟨_, List.getElem?_eq_getElem hk⟩
   have hep : (es.map EqT.p)[s]? = some e.p := by rw [List.getElem?_map, he]; rfl
   have hss := sumP_step hep
   simp only [EqT.p] at hss
   have hw : IntKind.i64.wrap ((s : Int) + 1) = (s : Int) + 1 := wrap_in (by omega) (by omega)
   refine AWp_skip ?_
   try simp only [thenQ, blockQ, noGotoQ]
   refine y1 _ ?_
   try clear y1 Y1
   refine AWp_seqK fun Y1 y1 => ?_
   refine AWp_block ?_
   refine AWp_seqK fun Y2 y2 => ?_
   refine AWp_seqK fun Y3 y3 => ?_
   refine AWp_region ?_
   iterate 5 (refine aops_chunk 1 fun Q0 q0 => ?_; simp only [↓aops, ↓aop, ↓aWant, ↓aVal, go_sem, seval, hk, gM he, EqT.cells, Ty.refold, Int.natCast_add, hw]; refine q0 _ ?_; clear q0 Q0; simp only [go_sem])
   refine aops_chunk 1 fun Q0 q0 => ?_
   simp only [↓aops, ↓aop, ↓aWant, ↓aVal, go_sem, seval, hk, gM he, EqT.cells, Ty.refold, Int.natCast_add, hw]
   refine APure.call (big12_pure e.l) ?_
   try simp only [bS, bA, thenQ, blockQ, noGotoQ]
   refine q0 _ ?_
   clear q0 Q0
   simp only [go_sem]
   refine aops_chunk 1 fun Q0 q0 => ?_
   simp only [↓aops, ↓aop, ↓aWant, ↓aVal, go_sem, seval, hk, gM he, EqT.cells, Ty.refold, Int.natCast_add, hw]
   refine q0 _ ?_
   clear q0 Q0
   simp only [go_sem]
   refine aops_case 21 rfl (fun hc21 => ?_) (fun hc21 => ?_)
   ·
    simp only [List.set_cons_zero, List.set_cons_succ]
    have hyb : bigE e.p = true := by (have h9 : e.l.big = true := by simpa using hc21); exact (by rw [bigE, show e.p.1.big = true from h9]; rfl)
    iterate 6 (refine aops_chunk 1 fun Q0 q0 => ?_; simp only [↓aops, ↓aop, ↓aWant, ↓aVal, go_sem, seval, hk, gM he, EqT.cells, Ty.refold, Int.natCast_add, hw]; refine q0 _ ?_; clear q0 Q0; simp only [go_sem])
    simp only [↓aops, ↓aop, ↓aWant, ↓aVal, go_sem, seval, hk, gM he, EqT.cells, Ty.refold, Int.natCast_add, hw]
    refine y3 _ ?_
    try clear y3 Y3
    refine AWp_cond (b := true) (by first | exact rfl | exact congrArg (fun b => AV.v (.bool b)) hb28) (fun _ => ?_) (fun h => (by cases h))
    refine AWp_seqK fun Y3 y3 => ?_
    refine AWp_region ?_
    simp only [↓aops, ↓aop, ↓aWant, ↓aVal, go_sem, seval, hk, gM he, EqT.cells, Ty.refold, Int.natCast_add, hw]
    refine y3 _ ?_
    try clear y3 Y3
    refine AWp_ret ?_
    try simp only [thenQ, blockQ, noGotoQ, retQ, aRes, tupOf, bS, bA]
    refine Le.of_eq (congrArg (fun b => AV.v (.bool b)) ?_)
    first | (rw [greatE_true hep (by omega) hyb]; done) | skip
    all_goals (rw [hg1, Bool.eq_iff_iff]; simp only [Bool.or_eq_true, decide_eq_true_eq, decide_eq_false_iff_not, true_iff, Bool.false_eq_true, false_iff] at *; omega)
   ·
    simp only [List.set_cons_zero, List.set_cons_succ]
    have hb1 : e.l.big = false := by simpa using hc21
    iterate 5 (refine aops_chunk 1 fun Q0 q0 => ?_; simp only [↓aops, ↓aop, ↓aWant, ↓aVal, go_sem, seval, hk, gM he, EqT.cells, Ty.refold, Int.natCast_add, hw]; refine q0 _ ?_; clear q0 Q0; simp only [go_sem])
    refine aops_chunk 1 fun Q0 q0 => ?_
    simp only [↓aops, ↓aop, ↓aWant, ↓aVal, go_sem, seval, hk, gM he, EqT.cells, Ty.refold, Int.natCast_add, hw]
    refine APure.call (big12_pure e.r) ?_
    try simp only [bS, bA, thenQ, blockQ, noGotoQ]
    refine q0 _ ?_
    clear q0 Q0
    simp only [go_sem]
    simp only [↓aops, ↓aop, ↓aWant, ↓aVal, go_sem, seval, hk, gM he, EqT.cells, Ty.refold, Int.natCast_add, hw]
    refine y3 _ ?_
    try clear y3 Y3
    refine AWp_cond rfl (fun hb28 => ?_) (fun hb28 => ?_)
    ·
     have hyb : bigE e.p = true := by (have h9 : e.r.big = true := by simpa using hb28); exact (by rw [bigE, show e.p.2.big = true from h9, Bool.or_true])
     refine AWp_seqK fun Y3 y3 => ?_
     refine AWp_region ?_
     simp only [↓aops, ↓aop, ↓aWant, ↓aVal, go_sem, seval, hk, gM he, EqT.cells, Ty.refold, Int.natCast_add, hw]
     refine y3 _ ?_
     try clear y3 Y3
     refine AWp_ret ?_
     try simp only [thenQ, blockQ, noGotoQ, retQ, aRes, tupOf, bS, bA]
     refine Le.of_eq (congrArg (fun b => AV.v (.bool b)) ?_)
     first | (rw [greatE_true hep (by omega) hyb]; done) | skip
     all_goals (rw [hg1, Bool.eq_iff_iff]; simp only [Bool.or_eq_true, decide_eq_true_eq, decide_eq_false_iff_not, true_iff, Bool.false_eq_true, false_iff] at *; omega)
    ·
     have hb2 : e.r.big = false := by simpa using hb28
     have hnb : bigE e.p = false := by rw [bigE, show e.p.1.big = false from hb1, show e.p.2.big = false from hb2]; rfl
     have hpc1 := Ty.big_cnt hb1
     have hpc2 := Ty.big_cnt hb2
     have hsz1 := Ty.sizeW_cnt e.l (by omega)
     have hsz2 := Ty.sizeW_cnt e.r (by omega)
     have hw2 : IntKind.i64.wrap ((sumP ((es.map EqT.p).take s) : Int) + e.l.sizeW) = (sumP ((es.map EqT.p).take s) : Int) + e.l.cnt := by rw [hsz1, wrap_in (by omega) (by omega)]
     have hw3 : IntKind.i64.wrap ((sumP ((es.map EqT.p).take s) : Int) + e.l.cnt + e.r.sizeW) = (sumP ((es.map EqT.p).take (s + 1)) : Int) := by rw [hsz2, wrap_in (by omega) (by omega)]; omega
     refine AWp_skip ?_
     try simp only [thenQ, blockQ, noGotoQ]
     refine y2 _ ?_
     try clear y2 Y2
     refine AWp_drawK 15 mixed (by kernel_rfl) fun J0 j0 => ?_
     iterate 6 (simp only [go_sem]; refine dRun_chunk 1 fun Q0 q0 => ?_; simp only [↓dRun, ↓dOp, ↓aops, ↓aop, ↓aWant, ↓aVal, go_sem, seval, hk, gM he, EqT.cells, Ty.refold, Int.natCast_add, hw, hw2, hw3]; refine q0 _ ?_; clear q0 Q0)
     simp only [go_sem]
     refine dRun_chunk 1 fun Q0 q0 => ?_
     simp only [↓dRun, ↓dOp, ↓aops, ↓aop, ↓aWant, ↓aVal, go_sem, seval, hk, gM he, EqT.cells, Ty.refold, Int.natCast_add, hw, hw2, hw3]
     refine ⟨_, Size_pure e.l, ?_⟩
     try simp only [bS, bA, thenQ, blockQ, noGotoQ]
     iterate 7 (refine q0 _ ?_; clear q0 Q0; simp only [go_sem]; refine dRun_chunk 1 fun Q0 q0 => ?_; simp only [↓dRun, ↓dOp, ↓aops, ↓aop, ↓aWant, ↓aVal, go_sem, seval, hk, gM he, EqT.cells, Ty.refold, Int.natCast_add, hw, hw2, hw3])
     refine ⟨_, Size_pure e.r, ?_⟩
     try simp only [bS, bA, thenQ, blockQ, noGotoQ]
     refine q0 _ ?_
     clear q0 Q0
     simp only [go_sem]
     simp only [↓dRun, ↓dOp, ↓aops, ↓aop, ↓aWant, ↓aVal, go_sem, seval, hk, gM he, EqT.cells, Ty.refold, Int.natCast_add, hw, hw2, hw3]
     refine j0 _ ?_
     clear j0 J0
     simp only [go_sem]
     simp only [↓aops, ↓aop, ↓aWant, ↓aVal, go_sem, seval, hk, gM he, EqT.cells, Ty.refold, Int.natCast_add, hw, hw2, hw3]
     refine y1 _ ?_
     try clear y1 Y1
     refine AWp_region ?_
     iterate 2 (refine aops_chunk 1 fun Q0 q0 => ?_; simp only [↓aops, ↓aop, ↓aWant, ↓aVal, go_sem, seval, hk, gM he, EqT.cells, Ty.refold, Int.natCast_add, hw, hw2, hw3]; refine q0 _ ?_; clear q0 Q0; simp only [go_sem])
     simp only [↓aops, ↓aop, ↓aWant, ↓aVal, go_sem, seval, hk, gM he, EqT.cells, Ty.refold, Int.natCast_add, hw, hw2, hw3]
     refine ⟨(s + 1), ⟨by omega, by omega, by omega, fun i p' hi h1 => (by rcases Nat.lt_or_ge i s with h3 | h3 <;> first | exact hs.2.2.2 i p' h3 h1 | (obtain rfl : i = s := (by omega); rw [hep] at h1; cases h1; exact hnb))⟩, by omega, ?_⟩
     simp only [maskL, setsL, putsO, putO, mB, List.set_cons_zero, List.set_cons_succ, seval, hk, gM he, EqT.cells, Ty.refold, Int.natCast_add, Int.natCast_one, hw, hw2, hw3]
     exact Weak.mk (by simp only [go_sem, Le.refl, Le.any, Le.slNil, Int.natCast_add, Int.cast_ofNat_Int, Int.natCast_one]) (fun _ _ h => h) rfl rfl
  ·
   have hk0 : ¬ (s < es.length ∧ s < 30) := by simpa using hb12
   have hg1 := greatE_end (l := (es.map EqT.p)) (by rw [List.length_map]; exact hk0) (by rw [List.length_map]; exact hs.1) hs.2.1 hs.2.2.2
   rw [List.length_map] at hg1
   refine AWp_exit ?_
   simp only [thenQ, blockQ, noGotoQ, bA, Nat.reduceEqDiff, ↓reduceIte]
   refine y0 _ ?_
   try clear y0 Y0
   refine AWp_seqK fun Y0 y0 => ?_
   refine AWp_region ?_
   iterate 4 (refine aops_chunk 1 fun Q0 q0 => ?_; simp only [↓aops, ↓aop, ↓aWant, ↓aVal, go_sem, seval]; refine q0 _ ?_; clear q0 Q0; simp only [go_sem])
   refine aops_case 47 rfl (fun hc47 => ?_) (fun hc47 => ?_)
   ·
    simp only [List.set_cons_zero, List.set_cons_succ]
    iterate 3 (refine aops_chunk 1 fun Q0 q0 => ?_; simp only [↓aops, ↓aop, ↓aWant, ↓aVal, go_sem, seval]; refine q0 _ ?_; clear q0 Q0; simp only [go_sem])
    simp only [↓aops, ↓aop, ↓aWant, ↓aVal, go_sem, seval]
    refine y0 _ ?_
    try clear y0 Y0
    refine AWp_ret ?_
    try simp only [thenQ, blockQ, noGotoQ, retQ, aRes, tupOf, bS, bA]
    refine Le.of_eq (congrArg (fun b => AV.v (.bool b)) ?_)
    first | (rw [greatE_true hep (by omega) hyb]; done) | skip
    all_goals (rw [hg1, Bool.eq_iff_iff]; simp only [Bool.or_eq_true, decide_eq_true_eq, decide_eq_false_iff_not, true_iff, Bool.false_eq_true, false_iff] at *; omega)
   ·
    simp only [List.set_cons_zero, List.set_cons_succ]
    iterate 3 (refine aops_chunk 1 fun Q0 q0 => ?_; simp only [↓aops, ↓aop, ↓aWant, ↓aVal, go_sem, seval]; refine q0 _ ?_; clear q0 Q0; simp only [go_sem])
    simp only [↓aops, ↓aop, ↓aWant, ↓aVal, go_sem, seval]
    refine y0 _ ?_
    try clear y0 Y0
    refine AWp_ret ?_
    try simp only [thenQ, blockQ, noGotoQ, retQ, aRes, tupOf, bS, bA]
    refine Le.of_eq (congrArg (fun b => AV.v (.bool b)) ?_)
    first | (rw [greatE_true hep (by omega) hyb]; done) | skip
    all_goals (rw [hg1, Bool.eq_iff_iff]; simp only [Bool.or_eq_true, decide_eq_true_eq, decide_eq_false_iff_not, true_iff, Bool.false_eq_true, false_iff] at *; omega)
end Go.Proofs.Ytjjjckjebkmnjaa
namespace Go.Proofs.Ytjjjckjebkmnjaa
open Go Go.RowKit
set_option maxRecDepth 100000
set_option maxHeartbeats 4000000
set_option linter.unusedSimpArgs false
set_option linter.unusedVariables false
attribute [local irreducible] aops dRun
theorem UnifyClasses_pure (es : List EqT) (n : Int) : APure Try.prog 3 [.sl 8 (es.map EqT.cells), .v (.int .i64 n)] (.v (.bool true)) := by
  refine APure.mkL (.cons (EqT.dataSl es) (.cons (.v _) .nil)) (.v _) ?_
  refine ACalls_intro Try.func3 (by kernel_rfl) rfl (by rw [Try.ntmps3]; simp) (fun hm => ?_)
  simp only [Try.ntmps3, Try.results3, List.length_cons, List.length_nil, Nat.reduceAdd, Nat.reduceSub, List.replicate_succ, List.replicate_zero, List.cons_append, List.nil_append]
  refine AWp_seqK fun Y0 y0 => ?_
  refine AWp_region ?_
  simp only [↓aops, ↓aop, ↓aWant, ↓aVal, go_sem, seval]
  refine y0 _ ?_
  try clear y0 Y0
  refine AWp_seqK fun Y0 y0 => ?_
  refine AWp_seqK fun Y1 y1 => ?_
  refine AWp_region ?_
  refine aops_chunk 1 fun Q0 q0 => ?_
  simp only [↓aops, ↓aop, ↓aWant, ↓aVal, go_sem, seval]
  refine q0 _ ?_
  clear q0 Q0
  simp only [go_sem]
  simp only [↓aops, ↓aop, ↓aWant, ↓aVal, go_sem, seval]
  refine APure.call (Great12_pure es) ?_
  try simp only [bS, bA, thenQ, blockQ, noGotoQ]
  refine y1 _ ?_
  try clear y1 Y1
  refine AWp_cond rfl (fun hb21 => ?_) (fun hb21 => ?_)
  ·
   refine AWp_seqK fun Y1 y1 => ?_
   refine AWp_region ?_
   refine aops_chunk 1 fun Q0 q0 => ?_
   simp only [↓aops, ↓aop, ↓aWant, ↓aVal, go_sem, seval]
   refine APure.call (awake12_pure) ?_
   try simp only [bS, bA, thenQ, blockQ, noGotoQ]
   refine q0 _ ?_
   clear q0 Q0
   simp only [go_sem]
   simp only [↓aops, ↓aop, ↓aWant, ↓aVal, go_sem, seval]
   refine y1 _ ?_
   try clear y1 Y1
   refine AWp_ret ?_
   try simp only [thenQ, blockQ, noGotoQ, retQ, aRes, tupOf, bS, bA]
   exact Le.refl _
  ·
   have hgl := greatE_spec hb21
   rw [List.length_map] at hgl
   have hsm := hgl.2
   obtain ⟨hsP, hol⟩ := rights_okE es hgl.2
   have hrP : ∀ e ∈ ((rightsE es).map EqT.p), (e.1.right && e.2.right) = true := fun e he => (by obtain ⟨x, hx, rfl⟩ := List.mem_map.1 he; exact (List.mem_filter.1 hx).2)
   refine AWp_skip ?_
   try simp only [thenQ, blockQ, noGotoQ]
   refine y0 _ ?_
   try clear y0 Y0
   refine AWp_seqK fun Y0 y0 => ?_
   refine AWp_region ?_
   refine aops_chunk 1 fun Q0 q0 => ?_
   simp only [↓aops, ↓aop, ↓aWant, ↓aVal, go_sem, seval]
   refine VNew_calls.mono ?_
   rintro r os' nx' ⟨⟨rfl, rfl⟩, rfl⟩
   try simp only [bS, bA, thenQ, blockQ, noGotoQ]
   refine q0 _ ?_
   clear q0 Q0
   simp only [go_sem]
   simp only [↓aops, ↓aop, ↓aWant, ↓aVal, go_sem, seval]
   refine y0 _ ?_
   try clear y0 Y0
   refine AWp_weak (Weak.rowCell 3 1 0 (id := 0) rfl rfl) ?_
   simp only [newOs, putO, Nat.reduceEqDiff, ↓reduceIte, List.set_cons_zero, List.set_cons_succ, List.cons_append, List.nil_append]
   refine AWp_weak (Weak.rowCell 3 1 1 (id := 0) rfl rfl) ?_
   simp only [newOs, putO, Nat.reduceEqDiff, ↓reduceIte, List.set_cons_zero, List.set_cons_succ, List.cons_append, List.nil_append]
   refine AWp_weak (Weak.rowCell 3 1 3 (id := 3) rfl rfl) ?_
   simp only [newOs, putO, Nat.reduceEqDiff, ↓reduceIte, List.set_cons_zero, List.set_cons_succ, List.cons_append, List.nil_append]
   refine AWp_weak (Weak.tokCell 128 4 (id := 2) (t := 118) [.osl 7 4 ([].map GNode.cells), .map 1] rfl ⟨.inr ⟨rfl, rfl⟩, .inl (.refl _), trivial⟩) ?_
   simp only [newOs, putO, Nat.reduceEqDiff, ↓reduceIte, List.set_cons_zero, List.set_cons_succ, List.cons_append, List.nil_append]
   refine AWp_seqK fun Y0 y0 => ?_
   refine AWp_region ?_
   iterate 2 (refine aops_chunk 1 fun Q0 q0 => ?_; simp only [↓aops, ↓aop, ↓aWant, ↓aVal, go_sem, seval]; refine q0 _ ?_; clear q0 Q0; simp only [go_sem])
   simp only [↓aops, ↓aop, ↓aWant, ↓aVal, go_sem, seval]
   refine y0 _ ?_
   try clear y0 Y0
   refine AWp_seqK fun Y0 y0 => ?_
   refine AWp_seqK fun Y1 y1 => ?_
   refine AWp_region ?_
   simp only [↓aops, ↓aop, ↓aWant, ↓aVal, go_sem, seval]
   refine y1 _ ?_
   try clear y1 Y1
   refine AWp_block ?_
   refine AWp_loopM (σ := CS × Int × Int × Nat) (mB 275 995) (fun u => ClI es u.2.2.2 u.1 u.2.1 u.2.2.1 ∧ u.2.2.2 ≤ es.length) (fun u => [(6, .v (.int .i64 u.2.1)), (7, .v (.int .i64 u.2.2.1)), (8, .v (.bool u.1.clash)), (9, .v (.int .i64 (u.2.2.2 : Int)))]) (fun u => [(3, .cells 89 [.v (.int .i64 u.1.steps), .ptr 2 0, .ptr 0 0, .own 6 u.1.W.length, .v (.bool u.1.clash)]), (2, .cells 118 [.osl 7 4 (u.1.G.N.map GNode.cells), .map 1]), (7, .tok 128 4 u.1.G.N.length), (1, .map (u.1.G.V.map vC)), (0, .cells 115 [.own 4 u.1.F.up.length, .own 5 u.1.F.rank.length, .v (.int .i64 u.1.F.sets), .v (.int .i64 u.1.F.steps)]), (4, .row 3 1 (u.1.F.up.map nC)), (5, .row 3 1 (u.1.F.rank.map intC)), (6, .row 3 1 (u.1.W.map intC))]) (fun u => es.length - u.2.2.2) (CS0, 1, 0, 0) (⟨ClI.start es, Nat.zero_le _⟩) ?_ (fun u hu => ?_)
   ·
    simp only [maskL, setsL, putsO, putO, mB, List.set_cons_zero, List.set_cons_succ, seval, CS0, bL]
    exact Weak.mk (by simp only [go_sem, Le.refl, Le.any, Le.slNil, Int.natCast_add, Int.cast_ofNat_Int, Int.natCast_one]) (fun _ _ h => h) rfl rfl
   simp only [maskL, setsL, putsO, putO, mB, List.set_cons_zero, List.set_cons_succ, seval]
   refine AWp_seqK fun Y1 y1 => ?_
   refine AWp_seqK fun Y2 y2 => ?_
   refine AWp_region ?_
   iterate 3 (refine aops_chunk 1 fun Q0 q0 => ?_; simp only [↓aops, ↓aop, ↓aWant, ↓aVal, go_sem, seval]; refine q0 _ ?_; clear q0 Q0; simp only [go_sem])
   simp only [↓aops, ↓aop, ↓aWant, ↓aVal, go_sem, seval]
   refine y2 _ ?_
   try clear y2 Y2
   refine AWp_cond rfl (fun hb27 => ?_) (fun hb27 => ?_)
   ·
    have hk : u.2.2.2 < es.length := by simpa using hb27
    obtain ⟨e, he⟩ : ∃ e, es[u.2.2.2]? = some e := ⟨_, List.getElem?_eq_getElem hk⟩
    have hw : IntKind.i64.wrap ((u.2.2.2 : Int) + 1) = (u.2.2.2 : Int) + 1 := wrap_in (by omega) (by omega)
    have hesz := sumP_mem (List.mem_map.2 ⟨e, List.mem_of_getElem? he, rfl⟩ : e.p ∈ es.map EqT.p)
    simp only [EqT.p] at hesz
    have hNl := hu.1.st.len
    have hPk := (plE_sum hsm u.2.2.2).1
    have hPk1 := (plE_sum hsm (u.2.2.2 + 1)).1
    have hsl1 : (0 : Int) ≤ (u.2.2.2 : Int) + 1 := by omega
    have hsl2 : (u.2.2.2 : Int) + 1 ≤ (es.length : Int) := by omega
    have hsl3 : ((u.2.2.2 : Int) + 1).toNat = u.2.2.2 + 1 := by omega
    have hml := eqF_mlen (plE es (u.2.2.2 + 1))
    refine AWp_skip ?_
    try simp only [thenQ, blockQ, noGotoQ]
    refine y1 _ ?_
    try clear y1 Y1
    refine AWp_seqK fun Y1 y1 => ?_
    refine AWp_block ?_
    refine AWp_joinM (mB 275 2019) ([(10, .v (.bool e.ok))]) ([]) ?_ ?_
    ·
     refine AWp_region ?_
     iterate 5 (refine aops_chunk 1 fun Q0 q0 => ?_; simp only [↓aops, ↓aop, ↓aWant, ↓aVal, go_sem, seval, hk, gM he, EqT.cells, Ty.refold, hw, hsl1, hsl2, hsl3, Int.natCast_add]; refine q0 _ ?_; clear q0 Q0; simp only [go_sem])
     refine aops_chunk 1 fun Q0 q0 => ?_
     simp only [↓aops, ↓aop, ↓aWant, ↓aVal, go_sem, seval, hk, gM he, EqT.cells, Ty.refold, hw, hsl1, hsl2, hsl3, Int.natCast_add]
     refine APure.call (RefRight_pure e.l) ?_
     try simp only [bS, bA, thenQ, blockQ, noGotoQ]
     refine q0 _ ?_
     clear q0 Q0
     simp only [go_sem]
     refine aops_chunk 1 fun Q0 q0 => ?_
     simp only [↓aops, ↓aop, ↓aWant, ↓aVal, go_sem, seval, hk, gM he, EqT.cells, Ty.refold, hw, hsl1, hsl2, hsl3, Int.natCast_add]
     refine q0 _ ?_
     clear q0 Q0
     simp only [go_sem]
     refine aops_case 36 rfl (fun hc36 => ?_) (fun hc36 => ?_)
     ·
      simp only [List.set_cons_zero, List.set_cons_succ]
      have hl1 : e.l.right = true := hc36
      have hoke : e.ok = e.r.right := by rw [EqT.ok, hl1, Bool.true_and]
      iterate 5 (refine aops_chunk 1 fun Q0 q0 => ?_; simp only [↓aops, ↓aop, ↓aWant, ↓aVal, go_sem, seval, hk, gM he, EqT.cells, Ty.refold, hw, hsl1, hsl2, hsl3, Int.natCast_add]; refine q0 _ ?_; clear q0 Q0; simp only [go_sem])
      refine aops_chunk 1 fun Q0 q0 => ?_
      simp only [↓aops, ↓aop, ↓aWant, ↓aVal, go_sem, seval, hk, gM he, EqT.cells, Ty.refold, hw, hsl1, hsl2, hsl3, Int.natCast_add]
      refine APure.call (RefRight_pure e.r) ?_
      try simp only [bS, bA, thenQ, blockQ, noGotoQ]
      refine q0 _ ?_
      clear q0 Q0
      simp only [go_sem]
      refine aops_chunk 1 fun Q0 q0 => ?_
      simp only [↓aops, ↓aop, ↓aWant, ↓aVal, go_sem, seval, hk, gM he, EqT.cells, Ty.refold, hw, hsl1, hsl2, hsl3, Int.natCast_add]
      refine q0 _ ?_
      clear q0 Q0
      simp only [go_sem]
      simp only [↓aops, ↓aop, ↓aWant, ↓aVal, go_sem, seval, hk, gM he, EqT.cells, Ty.refold, hw, hsl1, hsl2, hsl3, Int.natCast_add]
      try simp only [maskL, setsL, putsO, putO, mB, List.set_cons_zero, List.set_cons_succ, seval]
      rw [hoke]
      exact Weak.mk (by simp only [go_sem, Le.refl, Le.any]) (fun _ _ h => h) rfl rfl
     ·
      simp only [List.set_cons_zero, List.set_cons_succ]
      have hl1 : e.l.right = false := by simpa using hc36
      have hoke : e.ok = false := by rw [EqT.ok, hl1, Bool.false_and]
      iterate 7 (refine aops_chunk 1 fun Q0 q0 => ?_; simp only [↓aops, ↓aop, ↓aWant, ↓aVal, go_sem, seval, hk, gM he, EqT.cells, Ty.refold, hw, hsl1, hsl2, hsl3, Int.natCast_add]; refine q0 _ ?_; clear q0 Q0; simp only [go_sem])
      simp only [↓aops, ↓aop, ↓aWant, ↓aVal, go_sem, seval, hk, gM he, EqT.cells, Ty.refold, hw, hsl1, hsl2, hsl3, Int.natCast_add]
      try simp only [maskL, setsL, putsO, putO, mB, List.set_cons_zero, List.set_cons_succ, seval]
      rw [hoke]
      exact Weak.mk (by simp only [go_sem, Le.refl, Le.any]) (fun _ _ h => h) rfl rfl
    simp only [maskL, setsL, putsO, putO, mB, List.set_cons_zero, List.set_cons_succ, seval]
    refine AWp_seqK fun Y2 y2 => ?_
    refine AWp_drawK 11 mixed (by kernel_rfl) fun J0 j0 => ?_
    iterate 10 (simp only [go_sem]; refine dRun_chunk 1 fun Q0 q0 => ?_; simp only [↓dRun, ↓dOp, ↓aops, ↓aop, ↓aWant, ↓aVal, go_sem, seval, hk, gM he, EqT.cells, Ty.refold, hw, hsl1, hsl2, hsl3, Int.natCast_add]; refine q0 _ ?_; clear q0 Q0)
    simp only [go_sem]
    simp only [↓dRun, ↓dOp, ↓aops, ↓aop, ↓aWant, ↓aVal, go_sem, seval, hk, gM he, EqT.cells, Ty.refold, hw, hsl1, hsl2, hsl3, Int.natCast_add]
    refine j0 _ ?_
    clear j0 J0
    simp only [go_sem]
    refine aops_chunk 1 fun Q0 q0 => ?_
    simp only [↓aops, ↓aop, ↓aWant, ↓aVal, go_sem, seval, hk, gM he, EqT.cells, Ty.refold, hw, hsl1, hsl2, hsl3, Int.natCast_add]
    refine CCalls.at (Equate2_c u.1 (nat2 (eqF (plE es u.2.2.2)).2) (eqF (plE es u.2.2.2)).1 e.l e.r (fun hc => (hu.1.st.good hc).1.2) (by omega) (by omega) (by omega)) (.cons (Ty.dataAgg _) (.cons (Ty.dataAgg _) .nil)) (fun _ => .v _) (i0 := 3) (i1 := 2) (i2 := 7) (i3 := 1) (i4 := 0) (i5 := 4) (i6 := 5) (i7 := 6) (by decide) (by simp) ⟨rfl, rfl, rfl, rfl, rfl, rfl, rfl, rfl, trivial⟩ (fun S1 r1 hX1 => ?_)
    try dsimp only at hX1
    simp only [cObsAt, List.zip_cons_cons, List.zip_nil_left, List.zip_nil_right, putsO, putO, Nat.reduceEqDiff, ↓reduceIte]
    obtain ⟨hE1, hR1⟩ := hX1
    try simp only [bS, bA, thenQ, blockQ, noGotoQ]
    refine q0 _ ?_
    clear q0 Q0
    simp only [go_sem]
    simp only [↓aops, ↓aop, ↓aWant, ↓aVal, go_sem, seval, hk, gM he, EqT.cells, Ty.refold, hw, hsl1, hsl2, hsl3, Int.natCast_add]
    refine y2 _ ?_
    try clear y2 Y2
    refine AWp_seqK fun Y2 y2 => ?_
    refine AWp_seqK fun Y3 y3 => ?_
    refine AWp_region ?_
    simp only [↓aops, ↓aop, ↓aWant, ↓aVal, go_sem, seval, hk, gM he, EqT.cells, Ty.refold, hw, hsl1, hsl2, hsl3, Int.natCast_add]
    refine y3 _ ?_
    try clear y3 Y3
    refine AWp_cond rfl (fun hb56 => ?_) (fun hb56 => ?_)
    ·
     have hcS : u.1.clash = true := hb56
     obtain ⟨hs1, hI⟩ := hu.1.bad hsm he hE1 hcS
     obtain rfl : S1 = u.1 := congrArg Prod.fst hs1
     obtain rfl : r1 = 7 := congrArg Prod.snd hs1
     refine AWp_seqK fun Y3 y3 => ?_
     refine AWp_seqK fun Y4 y4 => ?_
     refine AWp_region ?_
     iterate 3 (refine aops_chunk 1 fun Q0 q0 => ?_; simp only [↓aops, ↓aop, ↓aWant, ↓aVal, go_sem, seval, hk, gM he, EqT.cells, Ty.refold, hw, hsl1, hsl2, hsl3, Int.natCast_add]; refine q0 _ ?_; clear q0 Q0; simp only [go_sem])
     refine aops_case 59 rfl (fun hc59 => ?_) (fun hc59 => ?_)
     ·
      simp only [List.set_cons_zero, List.set_cons_succ]
      exact absurd hc59 (by simp)
     ·
      simp only [List.set_cons_zero, List.set_cons_succ]
      refine aops_chunk 1 fun Q0 q0 => ?_
      simp only [↓aops, ↓aop, ↓aWant, ↓aVal, go_sem, seval, hk, gM he, EqT.cells, Ty.refold, hw, hsl1, hsl2, hsl3, Int.natCast_add]
      refine q0 _ ?_
      clear q0 Q0
      simp only [go_sem]
      refine aops_chunk 1 fun Q0 q0 => ?_
      simp only [↓aops, ↓aop, ↓aWant, ↓aVal, go_sem, seval, hk, gM he, EqT.cells, Ty.refold, hw, hsl1, hsl2, hsl3, Int.natCast_add]
      refine CCalls.at (Err_c u.1) (.nil) (fun _ => .v _) (i0 := 3) (i1 := 2) (i2 := 7) (i3 := 1) (i4 := 0) (i5 := 4) (i6 := 5) (i7 := 6) (by decide) (by simp) ⟨rfl, rfl, rfl, rfl, rfl, rfl, rfl, rfl, trivial⟩ (fun Z9 u9 hZ9 => ?_)
      try dsimp only at hZ9
      simp only [cObsAt, List.zip_cons_cons, List.zip_nil_left, List.zip_nil_right, putsO, putO, Nat.reduceEqDiff, ↓reduceIte]
      have hZ8 : Z9 = u.1 := hZ9
      rw [hZ8]
      try simp only [bS, bA, thenQ, blockQ, noGotoQ]
      refine q0 _ ?_
      clear q0 Q0
      simp only [go_sem]
      refine aops_chunk 1 fun Q0 q0 => ?_
      simp only [↓aops, ↓aop, ↓aWant, ↓aVal, go_sem, seval, hk, gM he, EqT.cells, Ty.refold, hw, hsl1, hsl2, hsl3, Int.natCast_add]
      refine q0 _ ?_
      clear q0 Q0
      simp only [go_sem]
      simp only [↓aops, ↓aop, ↓aWant, ↓aVal, go_sem, seval, hk, gM he, EqT.cells, Ty.refold, hw, hsl1, hsl2, hsl3, Int.natCast_add]
      refine y4 _ ?_
      try clear y4 Y4
      refine AWp_cond rfl (fun hb63 => ?_) (fun hb63 => ?_)
      ·
       exact absurd hb63 (by simp [hcS])
      ·
       refine AWp_skip ?_
       try simp only [thenQ, blockQ, noGotoQ]
       refine y3 _ ?_
       try clear y3 Y3
       refine AWp_exit ?_
       simp only [thenQ, blockQ, noGotoQ, bA, Nat.reduceEqDiff, ↓reduceIte]
       refine y1 _ ?_
       try clear y1 Y1
       refine AWp_region ?_
       iterate 2 (refine aops_chunk 1 fun Q0 q0 => ?_; simp only [↓aops, ↓aop, ↓aWant, ↓aVal, go_sem, seval, hk, gM he, EqT.cells, Ty.refold, hw, hsl1, hsl2, hsl3, Int.natCast_add]; refine q0 _ ?_; clear q0 Q0; simp only [go_sem])
       simp only [↓aops, ↓aop, ↓aWant, ↓aVal, go_sem, seval, hk, gM he, EqT.cells, Ty.refold, hw, hsl1, hsl2, hsl3, Int.natCast_add]
       refine ⟨(u.1, u.2.1, u.2.2.1, u.2.2.2 + 1), ⟨hI, by simp only; omega⟩, (by simp only; omega), ?_⟩
       simp only [maskL, setsL, putsO, putO, mB, List.set_cons_zero, List.set_cons_succ, seval, Int.natCast_add, Int.natCast_one, Int.cast_ofNat_Int]
       refine Weak.sub ?_ ⟨rfl, rfl, rfl, rfl, rfl, rfl, rfl, rfl, trivial⟩ (by first | omega | (simp only; omega)) (by first | omega | (simp only; omega)) ?_ ?_
       · simp only [go_sem, Le.refl, Le.any]
       · repeat' first | exact trivial | exact .any _ | exact .ptr (by omega) | exact .own (by omega) | exact .v _ _ | exact Und.data (EqT.dataSl _) | exact Und.data (dataInts _) | exact Und.data (.eptr (.cons (RNode.dataSl _) (.cons (dataInts _) .nil))) | (refine ⟨?_, ?_⟩)
       · repeat' first | exact trivial | (with_reducible omega) | exact .any _ | exact .ptr (by omega) | exact .own (by omega) | exact .v _ _ | exact .map (by omega) | exact Und.oslG (by omega) | exact Und.rowI (nC_data _) | exact Und.rowI (iC_data _) | exact (fun p hp => .data (vC_data _ p hp)) | (refine ⟨?_, ?_⟩)
    ·
     have hcS : u.1.clash = false := by simpa using hb56
     refine AWp_skip ?_
     try simp only [thenQ, blockQ, noGotoQ]
     refine y2 _ ?_
     try clear y2 Y2
     refine AWp_seqK fun Y2 y2 => ?_
     refine AWp_seqK fun Y3 y3 => ?_
     refine AWp_region ?_
     refine aops_chunk 1 fun Q0 q0 => ?_
     simp only [↓aops, ↓aop, ↓aWant, ↓aVal, go_sem, seval, hk, gM he, EqT.cells, Ty.refold, hw, hsl1, hsl2, hsl3, Int.natCast_add]
     refine q0 _ ?_
     clear q0 Q0
     simp only [go_sem]
     simp only [↓aops, ↓aop, ↓aWant, ↓aVal, go_sem, seval, hk, gM he, EqT.cells, Ty.refold, hw, hsl1, hsl2, hsl3, Int.natCast_add]
     refine y3 _ ?_
     try clear y3 Y3
     refine AWp_cond rfl (fun hb65 => ?_) (fun hb65 => ?_)
     ·
      have hno : e.ok = false := by simpa using hb65
      obtain ⟨hs1, hI⟩ := hu.1.wrong hsm he hE1 hcS hno
      obtain rfl : S1 = u.1 := congrArg Prod.fst hs1
      obtain rfl : r1 = 1 := congrArg Prod.snd hs1
      refine AWp_seqK fun Y3 y3 => ?_
      refine AWp_seqK fun Y4 y4 => ?_
      refine AWp_region ?_
      iterate 3 (refine aops_chunk 1 fun Q0 q0 => ?_; simp only [↓aops, ↓aop, ↓aWant, ↓aVal, go_sem, seval, hk, gM he, EqT.cells, Ty.refold, hw, hsl1, hsl2, hsl3, Int.natCast_add]; refine q0 _ ?_; clear q0 Q0; simp only [go_sem])
      refine aops_case 68 rfl (fun hc68 => ?_) (fun hc68 => ?_)
      ·
       simp only [List.set_cons_zero, List.set_cons_succ]
       exact absurd hc68 (by simp)
      ·
       simp only [List.set_cons_zero, List.set_cons_succ]
       refine aops_chunk 1 fun Q0 q0 => ?_
       simp only [↓aops, ↓aop, ↓aWant, ↓aVal, go_sem, seval, hk, gM he, EqT.cells, Ty.refold, hw, hsl1, hsl2, hsl3, Int.natCast_add]
       refine q0 _ ?_
       clear q0 Q0
       simp only [go_sem]
       refine aops_chunk 1 fun Q0 q0 => ?_
       simp only [↓aops, ↓aop, ↓aWant, ↓aVal, go_sem, seval, hk, gM he, EqT.cells, Ty.refold, hw, hsl1, hsl2, hsl3, Int.natCast_add]
       refine CCalls.at (Err_c u.1) (.nil) (fun _ => .v _) (i0 := 3) (i1 := 2) (i2 := 7) (i3 := 1) (i4 := 0) (i5 := 4) (i6 := 5) (i7 := 6) (by decide) (by simp) ⟨rfl, rfl, rfl, rfl, rfl, rfl, rfl, rfl, trivial⟩ (fun Z9 u9 hZ9 => ?_)
       try dsimp only at hZ9
       simp only [cObsAt, List.zip_cons_cons, List.zip_nil_left, List.zip_nil_right, putsO, putO, Nat.reduceEqDiff, ↓reduceIte]
       have hZ8 : Z9 = u.1 := hZ9
       rw [hZ8]
       try simp only [bS, bA, thenQ, blockQ, noGotoQ]
       refine q0 _ ?_
       clear q0 Q0
       simp only [go_sem]
       refine aops_chunk 1 fun Q0 q0 => ?_
       simp only [↓aops, ↓aop, ↓aWant, ↓aVal, go_sem, seval, hk, gM he, EqT.cells, Ty.refold, hw, hsl1, hsl2, hsl3, Int.natCast_add]
       refine q0 _ ?_
       clear q0 Q0
       simp only [go_sem]
       simp only [↓aops, ↓aop, ↓aWant, ↓aVal, go_sem, seval, hk, gM he, EqT.cells, Ty.refold, hw, hsl1, hsl2, hsl3, Int.natCast_add]
       refine y4 _ ?_
       try clear y4 Y4
       refine AWp_cond rfl (fun hb72 => ?_) (fun hb72 => ?_)
       ·
        exact absurd hb72 (by simp [hcS])
       ·
        refine AWp_skip ?_
        try simp only [thenQ, blockQ, noGotoQ]
        refine y3 _ ?_
        try clear y3 Y3
        refine AWp_exit ?_
        simp only [thenQ, blockQ, noGotoQ, bA, Nat.reduceEqDiff, ↓reduceIte]
        refine y1 _ ?_
        try clear y1 Y1
        refine AWp_region ?_
        iterate 2 (refine aops_chunk 1 fun Q0 q0 => ?_; simp only [↓aops, ↓aop, ↓aWant, ↓aVal, go_sem, seval, hk, gM he, EqT.cells, Ty.refold, hw, hsl1, hsl2, hsl3, Int.natCast_add]; refine q0 _ ?_; clear q0 Q0; simp only [go_sem])
        simp only [↓aops, ↓aop, ↓aWant, ↓aVal, go_sem, seval, hk, gM he, EqT.cells, Ty.refold, hw, hsl1, hsl2, hsl3, Int.natCast_add]
        refine ⟨(u.1, u.2.1, u.2.2.1, u.2.2.2 + 1), ⟨hI, by simp only; omega⟩, (by simp only; omega), ?_⟩
        simp only [maskL, setsL, putsO, putO, mB, List.set_cons_zero, List.set_cons_succ, seval, Int.natCast_add, Int.natCast_one, Int.cast_ofNat_Int]
        refine Weak.sub ?_ ⟨rfl, rfl, rfl, rfl, rfl, rfl, rfl, rfl, trivial⟩ (by first | omega | (simp only; omega)) (by first | omega | (simp only; omega)) ?_ ?_
        · simp only [go_sem, Le.refl, Le.any]
        · repeat' first | exact trivial | exact .any _ | exact .ptr (by omega) | exact .own (by omega) | exact .v _ _ | exact Und.data (EqT.dataSl _) | exact Und.data (dataInts _) | exact Und.data (.eptr (.cons (RNode.dataSl _) (.cons (dataInts _) .nil))) | (refine ⟨?_, ?_⟩)
        · repeat' first | exact trivial | (with_reducible omega) | exact .any _ | exact .ptr (by omega) | exact .own (by omega) | exact .v _ _ | exact .map (by omega) | exact Und.oslG (by omega) | exact Und.rowI (nC_data _) | exact Und.rowI (iC_data _) | exact (fun p hp => .data (vC_data _ p hp)) | (refine ⟨?_, ?_⟩)
     ·
      have hyes : e.ok = true := by simpa using hb65
      obtain ⟨hI, hr1, hge, hle, hsumE⟩ := hu.1.good hsm (by omega) he hE1 hR1 hcS hyes
      dsimp only at hI hr1 hge hle
      have hr2 : r1 = (if S1.clash = true then 7 else 0) := hr1
      subst hr2
      obtain ⟨n9, hn9⟩ : ∃ n : Nat, n = 1 + sumP (plE es (u.2.2.2 + 1)) := ⟨_, rfl⟩
      have hs9 : u.2.1 + (e.l.cnt : Int) + (e.r.cnt : Int) = (n9 : Int) := by omega
      rw [hs9] at hI
      have hz1 : e.l.sizeW = (e.l.cnt : Int) := Ty.sizeW_cnt _ (by omega)
      have hz2 : e.r.sizeW = (e.r.cnt : Int) := Ty.sizeW_cnt _ (by omega)
      have hnum := hu.1.num hcS
      have hws1 : IntKind.i64.wrap (u.2.1 + (e.l.cnt : Int)) = u.2.1 + (e.l.cnt : Int) := wrap_in (by omega) (by omega)
      have hws2 : IntKind.i64.wrap (u.2.1 + (e.l.cnt : Int) + (e.r.cnt : Int)) = (n9 : Int) := by rw [hs9]; exact wrap_in (by omega) (by omega)
      have hd9 := digN_le (n := n9) (by omega)
      obtain ⟨hp1, hp2, hp3⟩ := prod_ok (a := (n9 : Int)) (d := (digN n9 : Int)) (by omega) (by omega) (by omega) (by omega)
      have hm1 : IntKind.i64.wrap (40 * (n9 : Int)) = 40 * (n9 : Int) := wrap_in (by omega) (by omega)
      have hm2 : IntKind.i64.wrap ((digN n9 : Int) + 2) = (digN n9 : Int) + 2 := wrap_in (by omega) (by omega)
      have hm3 : IntKind.i64.wrap (40 * (n9 : Int) * ((digN n9 : Int) + 2)) = 40 * (n9 : Int) * ((digN n9 : Int) + 2) := wrap_in (by omega) (by omega)
      have hz9 : decide (S1.steps > 40 * (n9 : Int) * ((digN n9 : Int) + 2)) = false := decide_eq_false (by omega)
      refine AWp_skip ?_
      try simp only [thenQ, blockQ, noGotoQ]
      refine y2 _ ?_
      try clear y2 Y2
      refine AWp_seqK fun Y2 y2 => ?_
      refine AWp_drawK 15 mixed (by kernel_rfl) fun J0 j0 => ?_
      iterate 6 (simp only [go_sem]; refine dRun_chunk 1 fun Q0 q0 => ?_; simp only [↓dRun, ↓dOp, ↓aops, ↓aop, ↓aWant, ↓aVal, go_sem, seval, hk, gM he, EqT.cells, Ty.refold, hw, hsl1, hsl2, hsl3, Int.natCast_add, hz1, hz2, hws1, hws2, hm1, hm2, hm3]; refine q0 _ ?_; clear q0 Q0)
      simp only [go_sem]
      refine dRun_chunk 1 fun Q0 q0 => ?_
      simp only [↓dRun, ↓dOp, ↓aops, ↓aop, ↓aWant, ↓aVal, go_sem, seval, hk, gM he, EqT.cells, Ty.refold, hw, hsl1, hsl2, hsl3, Int.natCast_add, hz1, hz2, hws1, hws2, hm1, hm2, hm3]
      refine ⟨_, Size_pure e.l, ?_⟩
      try simp only [bS, bA, thenQ, blockQ, noGotoQ]
      iterate 7 (refine q0 _ ?_; clear q0 Q0; simp only [go_sem]; refine dRun_chunk 1 fun Q0 q0 => ?_; simp only [↓dRun, ↓dOp, ↓aops, ↓aop, ↓aWant, ↓aVal, go_sem, seval, hk, gM he, EqT.cells, Ty.refold, hw, hsl1, hsl2, hsl3, Int.natCast_add, hz1, hz2, hws1, hws2, hm1, hm2, hm3])
      refine ⟨_, Size_pure e.r, ?_⟩
      try simp only [bS, bA, thenQ, blockQ, noGotoQ]
      refine q0 _ ?_
      clear q0 Q0
      simp only [go_sem]
      simp only [↓dRun, ↓dOp, ↓aops, ↓aop, ↓aWant, ↓aVal, go_sem, seval, hk, gM he, EqT.cells, Ty.refold, hw, hsl1, hsl2, hsl3, Int.natCast_add, hz1, hz2, hws1, hws2, hm1, hm2, hm3]
      refine j0 _ ?_
      clear j0 J0
      simp only [go_sem]
      simp only [↓aops, ↓aop, ↓aWant, ↓aVal, go_sem, seval, hk, gM he, EqT.cells, Ty.refold, hw, hsl1, hsl2, hsl3, Int.natCast_add, hz1, hz2, hws1, hws2, hm1, hm2, hm3]
      refine y2 _ ?_
      try clear y2 Y2
      refine AWp_seqK fun Y2 y2 => ?_
      refine AWp_region ?_
      iterate 4 (refine aops_chunk 1 fun Q0 q0 => ?_; simp only [↓aops, ↓aop, ↓aWant, ↓aVal, go_sem, seval, hk, gM he, EqT.cells, Ty.refold, hw, hsl1, hsl2, hsl3, Int.natCast_add, hz1, hz2, hws1, hws2, hm1, hm2, hm3]; refine q0 _ ?_; clear q0 Q0; simp only [go_sem])
      refine aops_chunk 1 fun Q0 q0 => ?_
      simp only [↓aops, ↓aop, ↓aWant, ↓aVal, go_sem, seval, hk, gM he, EqT.cells, Ty.refold, hw, hsl1, hsl2, hsl3, Int.natCast_add, hz1, hz2, hws1, hws2, hm1, hm2, hm3]
      rw [← List.map_take]
      refine APure.call (Rights12_pure (es.take (u.2.2.2 + 1)) (by rw [List.length_take]; omega)) ?_
      try simp only [bS, bA, thenQ, blockQ, noGotoQ]
      refine q0 _ ?_
      clear q0 Q0
      simp only [go_sem]
      refine aops_chunk 1 fun Q0 q0 => ?_
      simp only [↓aops, ↓aop, ↓aWant, ↓aVal, go_sem, seval, hk, gM he, EqT.cells, Ty.refold, hw, hsl1, hsl2, hsl3, Int.natCast_add, hz1, hz2, hws1, hws2, hm1, hm2, hm3]
      refine Close_at (rightsE (es.take (u.2.2.2 + 1))) hPk1 (plE_right es _) (fun c hc hcb => ?_)
      have hclx : clB (eqF (plE es (u.2.2.2 + 1))).1 c = S1.clash := by rw [Bool.eq_iff_iff, hI.st.clash_iff]; exact hcb
      try simp only [bS, bA, thenQ, blockQ, noGotoQ]
      refine q0 _ ?_
      clear q0 Q0
      simp only [go_sem]
      refine aops_chunk 1 fun Q0 q0 => ?_
      simp only [↓aops, ↓aop, ↓aWant, ↓aVal, go_sem, seval, hk, gM he, EqT.cells, Ty.refold, hw, hsl1, hsl2, hsl3, Int.natCast_add, hz1, hz2, hws1, hws2, hm1, hm2, hm3]
      refine APure.call (Clash_pure (eqF (plE es (u.2.2.2 + 1))).1 c hc.col.len (by omega)) ?_
      rw [hclx]
      try simp only [bS, bA, thenQ, blockQ, noGotoQ]
      refine q0 _ ?_
      clear q0 Q0
      simp only [go_sem]
      simp only [↓aops, ↓aop, ↓aWant, ↓aVal, go_sem, seval, hk, gM he, EqT.cells, Ty.refold, hw, hsl1, hsl2, hsl3, Int.natCast_add, hz1, hz2, hws1, hws2, hm1, hm2, hm3]
      refine y2 _ ?_
      try clear y2 Y2
      refine AWp_seqK fun Y2 y2 => ?_
      refine AWp_joinM (mB 275 10633823966279326983230456482242757475) ([(123, .v (.bool false))]) ([]) ?_ ?_
      ·
       refine AWp_region ?_
       iterate 5 (refine aops_chunk 1 fun Q0 q0 => ?_; simp only [↓aops, ↓aop, ↓aWant, ↓aVal, go_sem, seval, hk, gM he, EqT.cells, Ty.refold, hw, hsl1, hsl2, hsl3, Int.natCast_add, hz1, hz2, hws1, hws2, hm1, hm2, hm3]; refine q0 _ ?_; clear q0 Q0; simp only [go_sem])
       refine aops_case 99 rfl (fun hc99 => ?_) (fun hc99 => ?_)
       ·
        simp only [List.set_cons_zero, List.set_cons_succ]
        exact absurd hc99 (by cases S1.clash <;> simp)
       ·
        simp only [List.set_cons_zero, List.set_cons_succ]
        iterate 3 (refine aops_chunk 1 fun Q0 q0 => ?_; simp only [↓aops, ↓aop, ↓aWant, ↓aVal, go_sem, seval, hk, gM he, EqT.cells, Ty.refold, hw, hsl1, hsl2, hsl3, Int.natCast_add, hz1, hz2, hws1, hws2, hm1, hm2, hm3]; refine q0 _ ?_; clear q0 Q0; simp only [go_sem])
        refine aops_case 102 rfl (fun hc102 => ?_) (fun hc102 => ?_)
        ·
         simp only [List.set_cons_zero, List.set_cons_succ]
         have hc1 : S1.clash = false := by simpa using hc102
         iterate 5 (refine aops_chunk 1 fun Q0 q0 => ?_; simp only [↓aops, ↓aop, ↓aWant, ↓aVal, go_sem, seval, hk, gM he, EqT.cells, Ty.refold, hw, hsl1, hsl2, hsl3, Int.natCast_add, hz1, hz2, hws1, hws2, hm1, hm2, hm3]; refine q0 _ ?_; clear q0 Q0; simp only [go_sem])
         refine aops_case 107 rfl (fun hc107 => ?_) (fun hc107 => ?_)
         ·
          simp only [List.set_cons_zero, List.set_cons_succ]
          exact absurd hc107 (by simp [hc1])
         ·
          simp only [List.set_cons_zero, List.set_cons_succ]
          refine aops_chunk 1 fun Q0 q0 => ?_
          simp only [↓aops, ↓aop, ↓aWant, ↓aVal, go_sem, seval, hk, gM he, EqT.cells, Ty.refold, hw, hsl1, hsl2, hsl3, Int.natCast_add, hz1, hz2, hws1, hws2, hm1, hm2, hm3]
          refine q0 _ ?_
          clear q0 Q0
          simp only [go_sem]
          refine aops_chunk 1 fun Q0 q0 => ?_
          simp only [↓aops, ↓aop, ↓aWant, ↓aVal, go_sem, seval, hk, gM he, EqT.cells, Ty.refold, hw, hsl1, hsl2, hsl3, Int.natCast_add, hz1, hz2, hws1, hws2, hm1, hm2, hm3]
          refine CCalls.at (CSteps_c S1) (.nil) (fun _ => .v _) (i0 := 3) (i1 := 2) (i2 := 7) (i3 := 1) (i4 := 0) (i5 := 4) (i6 := 5) (i7 := 6) (by decide) (by simp) ⟨rfl, rfl, rfl, rfl, rfl, rfl, rfl, rfl, trivial⟩ (fun Z9 u9 hZ9 => ?_)
          try dsimp only at hZ9
          simp only [cObsAt, List.zip_cons_cons, List.zip_nil_left, List.zip_nil_right, putsO, putO, Nat.reduceEqDiff, ↓reduceIte]
          obtain rfl : S1 = Z9 := hZ9.symm
          try simp only [bS, bA, thenQ, blockQ, noGotoQ]
          iterate 4 (refine q0 _ ?_; clear q0 Q0; simp only [go_sem]; refine aops_chunk 1 fun Q0 q0 => ?_; simp only [↓aops, ↓aop, ↓aWant, ↓aVal, go_sem, seval, hk, gM he, EqT.cells, Ty.refold, hw, hsl1, hsl2, hsl3, Int.natCast_add, hz1, hz2, hws1, hws2, hm1, hm2, hm3])
          refine q0 _ ?_
          clear q0 Q0
          simp only [go_sem]
          refine aops_case 113 rfl (fun hc113 => ?_) (fun hc113 => ?_)
          ·
           simp only [List.set_cons_zero, List.set_cons_succ]
           exact absurd hc113 (by simp; omega)
          ·
           simp only [List.set_cons_zero, List.set_cons_succ]
           refine aops_chunk 1 fun Q0 q0 => ?_
           simp only [↓aops, ↓aop, ↓aWant, ↓aVal, go_sem, seval, hk, gM he, EqT.cells, Ty.refold, hw, hsl1, hsl2, hsl3, Int.natCast_add, hz1, hz2, hws1, hws2, hm1, hm2, hm3]
           refine q0 _ ?_
           clear q0 Q0
           simp only [go_sem]
           refine aops_chunk 1 fun Q0 q0 => ?_
           simp only [↓aops, ↓aop, ↓aWant, ↓aVal, go_sem, seval, hk, gM he, EqT.cells, Ty.refold, hw, hsl1, hsl2, hsl3, Int.natCast_add, hz1, hz2, hws1, hws2, hm1, hm2, hm3]
           refine CCalls.at (CSteps_c S1) (.nil) (fun _ => .v _) (i0 := 3) (i1 := 2) (i2 := 7) (i3 := 1) (i4 := 0) (i5 := 4) (i6 := 5) (i7 := 6) (by decide) (by simp) ⟨rfl, rfl, rfl, rfl, rfl, rfl, rfl, rfl, trivial⟩ (fun Z9 u9 hZ9 => ?_)
           try dsimp only at hZ9
           simp only [cObsAt, List.zip_cons_cons, List.zip_nil_left, List.zip_nil_right, putsO, putO, Nat.reduceEqDiff, ↓reduceIte]
           obtain rfl : S1 = Z9 := hZ9.symm
           try simp only [bS, bA, thenQ, blockQ, noGotoQ]
           iterate 4 (refine q0 _ ?_; clear q0 Q0; simp only [go_sem]; refine aops_chunk 1 fun Q0 q0 => ?_; simp only [↓aops, ↓aop, ↓aWant, ↓aVal, go_sem, seval, hk, gM he, EqT.cells, Ty.refold, hw, hsl1, hsl2, hsl3, Int.natCast_add, hz1, hz2, hws1, hws2, hm1, hm2, hm3])
           refine APure.call (digits_pure n9 (by omega)) ?_
           try simp only [bS, bA, thenQ, blockQ, noGotoQ]
           iterate 3 (refine q0 _ ?_; clear q0 Q0; simp only [go_sem]; refine aops_chunk 1 fun Q0 q0 => ?_; simp only [↓aops, ↓aop, ↓aWant, ↓aVal, go_sem, seval, hk, gM he, EqT.cells, Ty.refold, hw, hsl1, hsl2, hsl3, Int.natCast_add, hz1, hz2, hws1, hws2, hm1, hm2, hm3])
           refine q0 _ ?_
           clear q0 Q0
           simp only [go_sem]
           simp only [↓aops, ↓aop, ↓aWant, ↓aVal, go_sem, seval, hk, gM he, EqT.cells, Ty.refold, hw, hsl1, hsl2, hsl3, Int.natCast_add, hz1, hz2, hws1, hws2, hm1, hm2, hm3]
           try simp only [maskL, setsL, putsO, putO, mB, List.set_cons_zero, List.set_cons_succ, seval]
           exact Weak.mk (by simp only [go_sem, hz9, Le.refl, Le.any]) (fun _ _ h => h) rfl rfl
        ·
         simp only [List.set_cons_zero, List.set_cons_succ]
         iterate 6 (refine aops_chunk 1 fun Q0 q0 => ?_; simp only [↓aops, ↓aop, ↓aWant, ↓aVal, go_sem, seval, hk, gM he, EqT.cells, Ty.refold, hw, hsl1, hsl2, hsl3, Int.natCast_add, hz1, hz2, hws1, hws2, hm1, hm2, hm3]; refine q0 _ ?_; clear q0 Q0; simp only [go_sem])
         refine aops_chunk 1 fun Q0 q0 => ?_
         simp only [↓aops, ↓aop, ↓aWant, ↓aVal, go_sem, seval, hk, gM he, EqT.cells, Ty.refold, hw, hsl1, hsl2, hsl3, Int.natCast_add, hz1, hz2, hws1, hws2, hm1, hm2, hm3]
         refine CCalls.at (CSteps_c S1) (.nil) (fun _ => .v _) (i0 := 3) (i1 := 2) (i2 := 7) (i3 := 1) (i4 := 0) (i5 := 4) (i6 := 5) (i7 := 6) (by decide) (by simp) ⟨rfl, rfl, rfl, rfl, rfl, rfl, rfl, rfl, trivial⟩ (fun Z9 u9 hZ9 => ?_)
         try dsimp only at hZ9
         simp only [cObsAt, List.zip_cons_cons, List.zip_nil_left, List.zip_nil_right, putsO, putO, Nat.reduceEqDiff, ↓reduceIte]
         obtain rfl : S1 = Z9 := hZ9.symm
         try simp only [bS, bA, thenQ, blockQ, noGotoQ]
         iterate 4 (refine q0 _ ?_; clear q0 Q0; simp only [go_sem]; refine aops_chunk 1 fun Q0 q0 => ?_; simp only [↓aops, ↓aop, ↓aWant, ↓aVal, go_sem, seval, hk, gM he, EqT.cells, Ty.refold, hw, hsl1, hsl2, hsl3, Int.natCast_add, hz1, hz2, hws1, hws2, hm1, hm2, hm3])
         refine q0 _ ?_
         clear q0 Q0
         simp only [go_sem]
         refine aops_case 113 rfl (fun hc113 => ?_) (fun hc113 => ?_)
         ·
          simp only [List.set_cons_zero, List.set_cons_succ]
          exact absurd hc113 (by simp; omega)
         ·
          simp only [List.set_cons_zero, List.set_cons_succ]
          refine aops_chunk 1 fun Q0 q0 => ?_
          simp only [↓aops, ↓aop, ↓aWant, ↓aVal, go_sem, seval, hk, gM he, EqT.cells, Ty.refold, hw, hsl1, hsl2, hsl3, Int.natCast_add, hz1, hz2, hws1, hws2, hm1, hm2, hm3]
          refine q0 _ ?_
          clear q0 Q0
          simp only [go_sem]
          refine aops_chunk 1 fun Q0 q0 => ?_
          simp only [↓aops, ↓aop, ↓aWant, ↓aVal, go_sem, seval, hk, gM he, EqT.cells, Ty.refold, hw, hsl1, hsl2, hsl3, Int.natCast_add, hz1, hz2, hws1, hws2, hm1, hm2, hm3]
          refine CCalls.at (CSteps_c S1) (.nil) (fun _ => .v _) (i0 := 3) (i1 := 2) (i2 := 7) (i3 := 1) (i4 := 0) (i5 := 4) (i6 := 5) (i7 := 6) (by decide) (by simp) ⟨rfl, rfl, rfl, rfl, rfl, rfl, rfl, rfl, trivial⟩ (fun Z9 u9 hZ9 => ?_)
          try dsimp only at hZ9
          simp only [cObsAt, List.zip_cons_cons, List.zip_nil_left, List.zip_nil_right, putsO, putO, Nat.reduceEqDiff, ↓reduceIte]
          obtain rfl : S1 = Z9 := hZ9.symm
          try simp only [bS, bA, thenQ, blockQ, noGotoQ]
          iterate 4 (refine q0 _ ?_; clear q0 Q0; simp only [go_sem]; refine aops_chunk 1 fun Q0 q0 => ?_; simp only [↓aops, ↓aop, ↓aWant, ↓aVal, go_sem, seval, hk, gM he, EqT.cells, Ty.refold, hw, hsl1, hsl2, hsl3, Int.natCast_add, hz1, hz2, hws1, hws2, hm1, hm2, hm3])
          refine APure.call (digits_pure n9 (by omega)) ?_
          try simp only [bS, bA, thenQ, blockQ, noGotoQ]
          iterate 3 (refine q0 _ ?_; clear q0 Q0; simp only [go_sem]; refine aops_chunk 1 fun Q0 q0 => ?_; simp only [↓aops, ↓aop, ↓aWant, ↓aVal, go_sem, seval, hk, gM he, EqT.cells, Ty.refold, hw, hsl1, hsl2, hsl3, Int.natCast_add, hz1, hz2, hws1, hws2, hm1, hm2, hm3])
          refine q0 _ ?_
          clear q0 Q0
          simp only [go_sem]
          simp only [↓aops, ↓aop, ↓aWant, ↓aVal, go_sem, seval, hk, gM he, EqT.cells, Ty.refold, hw, hsl1, hsl2, hsl3, Int.natCast_add, hz1, hz2, hws1, hws2, hm1, hm2, hm3]
          try simp only [maskL, setsL, putsO, putO, mB, List.set_cons_zero, List.set_cons_succ, seval]
          exact Weak.mk (by simp only [go_sem, hz9, Le.refl, Le.any]) (fun _ _ h => h) rfl rfl
      simp only [maskL, setsL, putsO, putO, mB, List.set_cons_zero, List.set_cons_succ, seval]
      refine AWp_cond rfl (fun hb123 => ?_) (fun hb123 => ?_)
      ·
       cases hb123
      ·
       refine AWp_skip ?_
       try simp only [thenQ, blockQ, noGotoQ]
       refine y2 _ ?_
       try clear y2 Y2
       refine AWp_region ?_
       refine aops_chunk 1 fun Q0 q0 => ?_
       simp only [↓aops, ↓aop, ↓aWant, ↓aVal, go_sem, seval, hk, gM he, EqT.cells, Ty.refold, hw, hsl1, hsl2, hsl3, Int.natCast_add, hz1, hz2, hws1, hws2, hm1, hm2, hm3]
       refine q0 _ ?_
       clear q0 Q0
       simp only [go_sem]
       refine aops_chunk 1 fun Q0 q0 => ?_
       simp only [↓aops, ↓aop, ↓aWant, ↓aVal, go_sem, seval, hk, gM he, EqT.cells, Ty.refold, hw, hsl1, hsl2, hsl3, Int.natCast_add, hz1, hz2, hws1, hws2, hm1, hm2, hm3]
       refine CCalls.at (CSteps_c S1) (.nil) (fun _ => .v _) (i0 := 3) (i1 := 2) (i2 := 7) (i3 := 1) (i4 := 0) (i5 := 4) (i6 := 5) (i7 := 6) (by decide) (by simp) ⟨rfl, rfl, rfl, rfl, rfl, rfl, rfl, rfl, trivial⟩ (fun Z9 u9 hZ9 => ?_)
       try dsimp only at hZ9
       simp only [cObsAt, List.zip_cons_cons, List.zip_nil_left, List.zip_nil_right, putsO, putO, Nat.reduceEqDiff, ↓reduceIte]
       obtain rfl : S1 = Z9 := hZ9.symm
       try simp only [bS, bA, thenQ, blockQ, noGotoQ]
       refine q0 _ ?_
       clear q0 Q0
       simp only [go_sem]
       simp only [↓aops, ↓aop, ↓aWant, ↓aVal, go_sem, seval, hk, gM he, EqT.cells, Ty.refold, hw, hsl1, hsl2, hsl3, Int.natCast_add, hz1, hz2, hws1, hws2, hm1, hm2, hm3]
       refine y1 _ ?_
       try clear y1 Y1
       refine AWp_region ?_
       iterate 2 (refine aops_chunk 1 fun Q0 q0 => ?_; simp only [↓aops, ↓aop, ↓aWant, ↓aVal, go_sem, seval, hk, gM he, EqT.cells, Ty.refold, hw, hsl1, hsl2, hsl3, Int.natCast_add, hz1, hz2, hws1, hws2, hm1, hm2, hm3]; refine q0 _ ?_; clear q0 Q0; simp only [go_sem])
       simp only [↓aops, ↓aop, ↓aWant, ↓aVal, go_sem, seval, hk, gM he, EqT.cells, Ty.refold, hw, hsl1, hsl2, hsl3, Int.natCast_add, hz1, hz2, hws1, hws2, hm1, hm2, hm3]
       refine ⟨(S1, (n9 : Int), S1.steps, u.2.2.2 + 1), ⟨hI, by simp only; omega⟩, (by simp only; omega), ?_⟩
       simp only [maskL, setsL, putsO, putO, mB, List.set_cons_zero, List.set_cons_succ, seval, Int.natCast_add, Int.natCast_one, Int.cast_ofNat_Int]
       refine Weak.sub ?_ ⟨rfl, rfl, rfl, rfl, rfl, rfl, rfl, rfl, trivial⟩ (by first | omega | (simp only; omega)) (by first | omega | (simp only; omega)) ?_ ?_
       · simp only [go_sem, Le.refl, Le.any]
       · repeat' first | exact trivial | exact .any _ | exact .ptr (by omega) | exact .own (by omega) | exact .v _ _ | exact Und.data (EqT.dataSl _) | exact Und.data (dataInts _) | exact Und.data (.eptr (.cons (RNode.dataSl _) (.cons (dataInts _) .nil))) | (refine ⟨?_, ?_⟩)
       · repeat' first | exact trivial | (with_reducible omega) | exact .any _ | exact .ptr (by omega) | exact .own (by omega) | exact .v _ _ | exact .map (by omega) | exact Und.oslG (by omega) | exact Und.rowI (nC_data _) | exact Und.rowI (iC_data _) | exact (fun p hp => .data (vC_data _ p hp)) | (refine ⟨?_, ?_⟩)
   ·
    have hk : u.2.2.2 = es.length := by have h9 := hb27; simp at h9; have := hu.2; omega
    obtain ⟨S, hS⟩ : ∃ S, S = u.1 := ⟨_, rfl⟩
    have hCS : CSt ((rightsE es).map EqT.p) S := by (have h9 := hu.1.st; rw [hk] at h9; unfold plE at h9; rw [List.take_length] at h9; rw [hS]; exact h9)
    have hNS := hCS.len
    rw [← hS]
    refine AWp_exit ?_
    simp only [thenQ, blockQ, noGotoQ, bA, Nat.reduceEqDiff, ↓reduceIte]
    refine y0 _ ?_
    try clear y0 Y0
    refine AWp_seqK fun Y0 y0 => ?_
    refine AWp_seqK fun Y1 y1 => ?_
    refine AWp_region ?_
    simp only [↓aops, ↓aop, ↓aWant, ↓aVal, go_sem, seval]
    refine y1 _ ?_
    try clear y1 Y1
    refine AWp_cond rfl (fun hb126 => ?_) (fun hb126 => ?_)
    ·
     have hcS : S.clash = true := hb126
     refine AWp_seqK fun Y1 y1 => ?_
     refine AWp_region ?_
     iterate 2 (refine aops_chunk 1 fun Q0 q0 => ?_; simp only [↓aops, ↓aop, ↓aWant, ↓aVal, go_sem, seval]; refine q0 _ ?_; clear q0 Q0; simp only [go_sem])
     refine aops_chunk 1 fun Q0 q0 => ?_
     simp only [↓aops, ↓aop, ↓aWant, ↓aVal, go_sem, seval]
     refine CCalls.at (CPartsNo_c S n hcS) (.cons (.v _) .nil) (fun _ => .tup (.cons (.sl (by intro x hx; cases hx)) (.cons (.v _) .nil))) (i0 := 3) (i1 := 2) (i2 := 7) (i3 := 1) (i4 := 0) (i5 := 4) (i6 := 5) (i7 := 6) (by decide) (by simp) ⟨rfl, rfl, rfl, rfl, rfl, rfl, rfl, rfl, trivial⟩ (fun Z9 u9 hZ9 => ?_)
     try dsimp only at hZ9
     simp only [cObsAt, List.zip_cons_cons, List.zip_nil_left, List.zip_nil_right, putsO, putO, Nat.reduceEqDiff, ↓reduceIte]
     obtain rfl : S = Z9 := hZ9.symm
     try simp only [bS, bA, thenQ, blockQ, noGotoQ]
     iterate 4 (refine q0 _ ?_; clear q0 Q0; simp only [go_sem]; refine aops_chunk 1 fun Q0 q0 => ?_; simp only [↓aops, ↓aop, ↓aWant, ↓aVal, go_sem, seval])
     refine q0 _ ?_
     clear q0 Q0
     simp only [go_sem]
     simp only [↓aops, ↓aop, ↓aWant, ↓aVal, go_sem, seval]
     refine y1 _ ?_
     try clear y1 Y1
     refine AWp_seqK fun Y1 y1 => ?_
     refine AWp_region ?_
     refine aops_chunk 1 fun Q0 q0 => ?_
     simp only [↓aops, ↓aop, ↓aWant, ↓aVal, go_sem, seval]
     refine q0 _ ?_
     clear q0 Q0
     simp only [go_sem]
     refine aops_chunk 1 fun Q0 q0 => ?_
     simp only [↓aops, ↓aop, ↓aWant, ↓aVal, go_sem, seval]
     refine CCalls.at (CVars2_c S (fun hc => absurd hc (by rw [hcS]; decide)) (fun hc => absurd hc (by rw [hcS]; decide))) (.nil) (fun _ => dataInts _) (i0 := 3) (i1 := 2) (i2 := 7) (i3 := 1) (i4 := 0) (i5 := 4) (i6 := 5) (i7 := 6) (by decide) (by simp) ⟨rfl, rfl, rfl, rfl, rfl, rfl, rfl, rfl, trivial⟩ (fun Z9 u9 hZ9 => ?_)
     try dsimp only at hZ9
     simp only [cObsAt, List.zip_cons_cons, List.zip_nil_left, List.zip_nil_right, putsO, putO, Nat.reduceEqDiff, ↓reduceIte]
     obtain rfl : S = Z9 := hZ9.symm
     rw [if_pos hcS]
     try simp only [bS, bA, thenQ, blockQ, noGotoQ]
     iterate 3 (refine q0 _ ?_; clear q0 Q0; simp only [go_sem]; refine aops_chunk 1 fun Q0 q0 => ?_; simp only [↓aops, ↓aop, ↓aWant, ↓aVal, go_sem, seval])
     refine q0 _ ?_
     clear q0 Q0
     simp only [go_sem]
     refine aops_case 137 rfl (fun hc137 => ?_) (fun hc137 => ?_)
     ·
      simp only [List.set_cons_zero, List.set_cons_succ]
      iterate 2 (refine aops_chunk 1 fun Q0 q0 => ?_; simp only [↓aops, ↓aop, ↓aWant, ↓aVal, go_sem, seval]; refine q0 _ ?_; clear q0 Q0; simp only [go_sem])
      refine aops_chunk 1 fun Q0 q0 => ?_
      simp only [↓aops, ↓aop, ↓aWant, ↓aVal, go_sem, seval]
      refine CCalls.at (CKindNo_c S n hcS) (.cons (.v _) .nil) (fun _ => .v _) (i0 := 3) (i1 := 2) (i2 := 7) (i3 := 1) (i4 := 0) (i5 := 4) (i6 := 5) (i7 := 6) (by decide) (by simp) ⟨rfl, rfl, rfl, rfl, rfl, rfl, rfl, rfl, trivial⟩ (fun Z9 u9 hZ9 => ?_)
      try dsimp only at hZ9
      simp only [cObsAt, List.zip_cons_cons, List.zip_nil_left, List.zip_nil_right, putsO, putO, Nat.reduceEqDiff, ↓reduceIte]
      obtain rfl : S = Z9 := hZ9.symm
      try simp only [bS, bA, thenQ, blockQ, noGotoQ]
      iterate 3 (refine q0 _ ?_; clear q0 Q0; simp only [go_sem]; refine aops_chunk 1 fun Q0 q0 => ?_; simp only [↓aops, ↓aop, ↓aWant, ↓aVal, go_sem, seval])
      refine q0 _ ?_
      clear q0 Q0
      simp only [go_sem]
      refine aops_case 143 rfl (fun hc143 => ?_) (fun hc143 => ?_)
      ·
       simp only [List.set_cons_zero, List.set_cons_succ]
       iterate 3 (refine aops_chunk 1 fun Q0 q0 => ?_; simp only [↓aops, ↓aop, ↓aWant, ↓aVal, go_sem, seval]; refine q0 _ ?_; clear q0 Q0; simp only [go_sem])
       refine aops_chunk 1 fun Q0 q0 => ?_
       simp only [↓aops, ↓aop, ↓aWant, ↓aVal, go_sem, seval]
       refine CCalls.at (CSameNo_c S n n hcS) (.cons (.v _) (.cons (.v _) .nil)) (fun _ => .v _) (i0 := 3) (i1 := 2) (i2 := 7) (i3 := 1) (i4 := 0) (i5 := 4) (i6 := 5) (i7 := 6) (by decide) (by simp) ⟨rfl, rfl, rfl, rfl, rfl, rfl, rfl, rfl, trivial⟩ (fun Z9 u9 hZ9 => ?_)
       try dsimp only at hZ9
       simp only [cObsAt, List.zip_cons_cons, List.zip_nil_left, List.zip_nil_right, putsO, putO, Nat.reduceEqDiff, ↓reduceIte]
       obtain rfl : S = Z9 := hZ9.symm
       try simp only [bS, bA, thenQ, blockQ, noGotoQ]
       iterate 3 (refine q0 _ ?_; clear q0 Q0; simp only [go_sem]; refine aops_chunk 1 fun Q0 q0 => ?_; simp only [↓aops, ↓aop, ↓aWant, ↓aVal, go_sem, seval])
       refine q0 _ ?_
       clear q0 Q0
       simp only [go_sem]
       refine aops_case 150 rfl (fun hc150 => ?_) (fun hc150 => ?_)
       ·
        simp only [List.set_cons_zero, List.set_cons_succ]
        iterate 2 (refine aops_chunk 1 fun Q0 q0 => ?_; simp only [↓aops, ↓aop, ↓aWant, ↓aVal, go_sem, seval]; refine q0 _ ?_; clear q0 Q0; simp only [go_sem])
        refine aops_chunk 1 fun Q0 q0 => ?_
        simp only [↓aops, ↓aop, ↓aWant, ↓aVal, go_sem, seval]
        refine CCalls.at (ClassNo_c S n hcS) (.cons (.v _) .nil) (fun _ => dataInts _) (i0 := 3) (i1 := 2) (i2 := 7) (i3 := 1) (i4 := 0) (i5 := 4) (i6 := 5) (i7 := 6) (by decide) (by simp) ⟨rfl, rfl, rfl, rfl, rfl, rfl, rfl, rfl, trivial⟩ (fun Z9 u9 hZ9 => ?_)
        try dsimp only at hZ9
        simp only [cObsAt, List.zip_cons_cons, List.zip_nil_left, List.zip_nil_right, putsO, putO, Nat.reduceEqDiff, ↓reduceIte]
        obtain rfl : S = Z9 := hZ9.symm
        try simp only [bS, bA, thenQ, blockQ, noGotoQ]
        iterate 4 (refine q0 _ ?_; clear q0 Q0; simp only [go_sem]; refine aops_chunk 1 fun Q0 q0 => ?_; simp only [↓aops, ↓aop, ↓aWant, ↓aVal, go_sem, seval])
        refine q0 _ ?_
        clear q0 Q0
        simp only [go_sem]
        refine aops_case 157 rfl (fun hc157 => ?_) (fun hc157 => ?_)
        ·
         simp only [List.set_cons_zero, List.set_cons_succ]
         iterate 4 (refine aops_chunk 1 fun Q0 q0 => ?_; simp only [↓aops, ↓aop, ↓aWant, ↓aVal, go_sem, seval]; refine q0 _ ?_; clear q0 Q0; simp only [go_sem])
         refine aops_case 161 rfl (fun hc161 => ?_) (fun hc161 => ?_)
         ·
          simp only [List.set_cons_zero, List.set_cons_succ]
          refine aops_chunk 1 fun Q0 q0 => ?_
          simp only [↓aops, ↓aop, ↓aWant, ↓aVal, go_sem, seval]
          refine APure.call (awake12_pure) ?_
          try simp only [bS, bA, thenQ, blockQ, noGotoQ]
          refine q0 _ ?_
          clear q0 Q0
          simp only [go_sem]
          refine aops_chunk 1 fun Q0 q0 => ?_
          simp only [↓aops, ↓aop, ↓aWant, ↓aVal, go_sem, seval]
          refine q0 _ ?_
          clear q0 Q0
          simp only [go_sem]
          simp only [↓aops, ↓aop, ↓aWant, ↓aVal, go_sem, seval]
          refine y1 _ ?_
          try clear y1 Y1
          refine AWp_ret ?_
          try simp only [thenQ, blockQ, noGotoQ, retQ, aRes, tupOf, bS, bA]
          exact Le.refl _
         ·
          simp only [List.set_cons_zero, List.set_cons_succ]
          exact absurd hc161 (by simp)
        ·
         simp only [List.set_cons_zero, List.set_cons_succ]
         exact absurd hc157 (by simp)
       ·
        simp only [List.set_cons_zero, List.set_cons_succ]
        exact absurd hc150 (by simp)
      ·
       simp only [List.set_cons_zero, List.set_cons_succ]
       exact absurd hc143 (by simp)
     ·
      simp only [List.set_cons_zero, List.set_cons_succ]
      exact absurd hc137 (by simp)
    ·
     have hcS : S.clash = false := by simpa using hb126
     obtain ⟨hHS, hKS⟩ := hCS.good hcS
     have h64 : ∀ q ∈ S.G.V, is64 q.1 := fun q hq => vns_64 hHS.2.rel q.1 (by rw [← hKS]; exact List.mem_map.2 ⟨q, hq, rfl⟩)
     obtain ⟨M, hM⟩ : ∃ M, M = (eqF ((rightsE es).map EqT.p)).1 := ⟨_, rfl⟩
     have hmlM := eqF_mlen ((rightsE es).map EqT.p)
     rw [← hM] at hmlM
     have hVl : S.G.V.length ≤ 1000 := by (have h1 := congrArg List.length hKS; rw [List.length_map] at h1; have h2 := vns_len (eqF ((rightsE es).map EqT.p)).1; rw [← hM] at h1 h2; omega)
     refine AWp_skip ?_
     try simp only [thenQ, blockQ, noGotoQ]
     refine y0 _ ?_
     try clear y0 Y0
     refine AWp_joinF (σ := List Int) (mB 275 16418) (fun c => [(14, .eptr [.sl 4 (M.map RNode.cells), .sl 1 (c.map intC)])]) (fun c => [(3, .cells 89 [.v (.int .i64 S.steps), .ptr 2 0, .ptr 0 0, .own 6 S.W.length, .v (.bool S.clash)]), (2, .cells 118 [.osl 7 4 (S.G.N.map GNode.cells), .map 1]), (7, .tok 128 4 S.G.N.length), (1, .map (S.G.V.map vC)), (0, .cells 115 [.own 4 S.F.up.length, .own 5 S.F.rank.length, .v (.int .i64 S.F.sets), .v (.int .i64 S.F.steps)]), (4, .row 3 1 (S.F.up.map nC)), (5, .row 3 1 (S.F.rank.map intC)), (6, .row 3 1 (S.W.map intC))]) 8 (fun c => ColE ((rightsE es).map EqT.p) c) ?_ (fun c hce => ?_)
     ·
      refine AWp_region ?_
      refine aops_chunk 1 fun Q0 q0 => ?_
      simp only [↓aops, ↓aop, ↓aWant, ↓aVal, go_sem, seval]
      refine q0 _ ?_
      clear q0 Q0
      simp only [go_sem]
      refine aops_chunk 1 fun Q0 q0 => ?_
      simp only [↓aops, ↓aop, ↓aWant, ↓aVal, go_sem, seval]
      refine APure.call (Rights12_pure es (by omega)) ?_
      try simp only [bS, bA, thenQ, blockQ, noGotoQ]
      refine q0 _ ?_
      clear q0 Q0
      simp only [go_sem]
      refine aops_chunk 1 fun Q0 q0 => ?_
      simp only [↓aops, ↓aop, ↓aWant, ↓aVal, go_sem, seval]
      refine Close_at (rightsE es) hsP hrP (fun c hc hcb => ?_)
      rw [← hM] at hc ⊢
      try simp only [bS, bA, thenQ, blockQ, noGotoQ]
      refine q0 _ ?_
      clear q0 Q0
      simp only [go_sem]
      refine aops_chunk 1 fun Q0 q0 => ?_
      simp only [↓aops, ↓aop, ↓aWant, ↓aVal, go_sem, seval]
      refine q0 _ ?_
      clear q0 Q0
      simp only [go_sem]
      simp only [↓aops, ↓aop, ↓aWant, ↓aVal, go_sem, seval]
      try simp only [maskL, setsL, putsO, putO, mB, List.set_cons_zero, List.set_cons_succ, seval]
      refine ⟨c, (by rw [hM] at hc; exact hc.colE hol), ?_⟩
      refine Weak.freeze ?_ ⟨rfl, rfl, rfl, rfl, rfl, rfl, rfl, rfl, trivial⟩ (by first | omega | (simp only; omega)) (by first | omega | (simp only; omega)) ?_ ?_
      · repeat' first | trivial | exact .inr ⟨_, _, _, rfl, rfl, rfl, rfl⟩ | exact .inl (.refl _) | exact .inl (.any _) | (refine ⟨?_, ?_⟩)
      · repeat' first | exact trivial | exact .any _ | exact .ptr (by omega) | exact .own (by omega) | exact .v _ _ | exact Und.data (EqT.dataSl _) | exact Und.data (dataInts _) | exact Und.data (.eptr (.cons (RNode.dataSl _) (.cons (dataInts _) .nil))) | (refine ⟨?_, ?_⟩)
      · repeat' first | exact trivial | (with_reducible omega) | exact .any _ | exact .ptr (by omega) | exact .own (by omega) | exact .v _ _ | exact .map (by omega) | exact Und.oslG (by omega) | exact Und.rowI (nC_data _) | exact Und.rowI (iC_data _) | exact (fun p hp => .data (vC_data _ p hp)) | (refine ⟨?_, ?_⟩)
     simp only [maskL, setsL, putsO, putO, mB, List.set_cons_zero, List.set_cons_succ, seval]
     obtain ⟨L, hL⟩ : ∃ L, L = varsI M := ⟨_, rfl⟩
     have hLS : sortI (S.G.V.map Prod.fst) = L := by rw [hKS, hL, varsI_eq, hM]
     have hLl : L.length ≤ 1000 := by rw [← hLS, List.length_mergeSort, List.length_map]; exact hVl
     have hML : M.length ≤ 1048576 := by omega
     have hcl := hce.len
     rw [← hM] at hcl
     refine AWp_seqK fun Y0 y0 => ?_
     refine AWp_region ?_
     iterate 2 (refine aops_chunk 1 fun Q0 q0 => ?_; simp only [↓aops, ↓aop, ↓aWant, ↓aVal, go_sem, seval]; refine q0 _ ?_; clear q0 Q0; simp only [go_sem])
     refine aops_chunk 1 fun Q0 q0 => ?_
     simp only [↓aops, ↓aop, ↓aWant, ↓aVal, go_sem, seval]
     refine APure.call (RGVars_pure M hML) ?_
     rw [← hL]
     try simp only [bS, bA, thenQ, blockQ, noGotoQ]
     refine q0 _ ?_
     clear q0 Q0
     simp only [go_sem]
     simp only [↓aops, ↓aop, ↓aWant, ↓aVal, go_sem, seval]
     refine y0 _ ?_
     try clear y0 Y0
     refine AWp_seqK fun Y0 y0 => ?_
     refine AWp_seqK fun Y1 y1 => ?_
     refine AWp_region ?_
     refine aops_chunk 1 fun Q0 q0 => ?_
     simp only [↓aops, ↓aop, ↓aWant, ↓aVal, go_sem, seval]
     refine q0 _ ?_
     clear q0 Q0
     simp only [go_sem]
     refine aops_chunk 1 fun Q0 q0 => ?_
     simp only [↓aops, ↓aop, ↓aWant, ↓aVal, go_sem, seval]
     refine CCalls.at (CVars2_c S (fun _ => h64) (fun _ => by omega)) (.nil) (fun _ => dataInts _) (i0 := 3) (i1 := 2) (i2 := 7) (i3 := 1) (i4 := 0) (i5 := 4) (i6 := 5) (i7 := 6) (by decide) (by simp) ⟨rfl, rfl, rfl, rfl, rfl, rfl, rfl, rfl, trivial⟩ (fun Z9 u9 hZ9 => ?_)
     try dsimp only at hZ9
     simp only [cObsAt, List.zip_cons_cons, List.zip_nil_left, List.zip_nil_right, putsO, putO, Nat.reduceEqDiff, ↓reduceIte]
     obtain rfl : S = Z9 := hZ9.symm
     rw [if_neg (show ¬ (S.clash = true) from by rw [hcS]; decide), show sortI (S.G.V.map Prod.fst) = L from hLS]
     try simp only [bS, bA, thenQ, blockQ, noGotoQ]
     iterate 2 (refine q0 _ ?_; clear q0 Q0; simp only [go_sem]; refine aops_chunk 1 fun Q0 q0 => ?_; simp only [↓aops, ↓aop, ↓aWant, ↓aVal, go_sem, seval])
     refine APure.call (Ints_pure L L) ?_
     try simp only [bS, bA, thenQ, blockQ, noGotoQ]
     refine q0 _ ?_
     clear q0 Q0
     simp only [go_sem]
     simp only [↓aops, ↓aop, ↓aWant, ↓aVal, go_sem, seval]
     refine y1 _ ?_
     try clear y1 Y1
     refine AWp_cond rfl (fun hb174 => ?_) (fun hb174 => ?_)
     ·
      exact absurd hb174 (by simp)
     ·
      refine AWp_skip ?_
      try simp only [thenQ, blockQ, noGotoQ]
      refine y0 _ ?_
      try clear y0 Y0
      refine AWp_seqK fun Y0 y0 => ?_
      refine AWp_seqK fun Y1 y1 => ?_
      refine AWp_region ?_
      simp only [↓aops, ↓aop, ↓aWant, ↓aVal, go_sem, seval]
      refine y1 _ ?_
      try clear y1 Y1
      refine AWp_block ?_
      refine AWp_loopM (σ := FS × Nat) (mB 275 114722) (fun x => FSame S.F x.1 ∧ x.2 ≤ L.length) (fun x => [(16, .v (.int .i64 (x.2 : Int)))]) (fun x => [(0, .cells 115 [.own 4 x.1.up.length, .own 5 x.1.rank.length, .v (.int .i64 x.1.sets), .v (.int .i64 x.1.steps)]), (4, .row 3 1 (x.1.up.map nC)), (5, .row 3 1 (x.1.rank.map intC))]) (fun x => L.length - x.2) (S.F, 0) (⟨FSame.refl hHS.2.w.c.f, Nat.zero_le _⟩) ?_ (fun x hx => ?_)
      ·
       simp only [maskL, setsL, putsO, putO, mB, List.set_cons_zero, List.set_cons_succ, seval]
       exact Weak.mk (by simp only [go_sem, Le.refl, Le.any, Le.slNil, Int.natCast_add, Int.cast_ofNat_Int, Int.natCast_one]) (fun _ _ h => h) rfl rfl
      simp only [maskL, setsL, putsO, putO, mB, List.set_cons_zero, List.set_cons_succ, seval]
      refine AWp_seqK fun Y1 y1 => ?_
      refine AWp_seqK fun Y2 y2 => ?_
      refine AWp_region ?_
      iterate 3 (refine aops_chunk 1 fun Q0 q0 => ?_; simp only [↓aops, ↓aop, ↓aWant, ↓aVal, go_sem, seval]; refine q0 _ ?_; clear q0 Q0; simp only [go_sem])
      simp only [↓aops, ↓aop, ↓aWant, ↓aVal, go_sem, seval]
      refine y2 _ ?_
      try clear y2 Y2
      refine AWp_cond rfl (fun hb178 => ?_) (fun hb178 => ?_)
      ·
       have hka : x.2 < L.length := by simpa using hb178
       obtain ⟨a, ha⟩ : ∃ a, L[x.2]? = some a := ⟨_, List.getElem?_eq_getElem hka⟩
       obtain ⟨q, hq1, hq2⟩ := var_idx (m := M) (n := a) (by rw [← hL]; exact List.mem_of_getElem? ha)
       have hHx : Holds ((rightsE es).map EqT.p) { S with F := x.1 } := hHS.fsame hx.1 rfl
       obtain ⟨qc, hqc⟩ : ∃ z, c[q]? = some z := ⟨_, List.getElem?_eq_getElem (by omega)⟩
       have hwa : IntKind.i64.wrap ((x.2 : Int) + 1) = (x.2 : Int) + 1 := wrap_in (by omega) (by omega)
       refine AWp_skip ?_
       try simp only [thenQ, blockQ, noGotoQ]
       refine y1 _ ?_
       try clear y1 Y1
       refine AWp_seqK fun Y1 y1 => ?_
       refine AWp_block ?_
       refine AWp_seqK fun Y2 y2 => ?_
       refine NAny_start 8 [15, 14] rfl mixed ?_
       dsimp only
       refine NAny_takeK 0 rfl (by kernel_rfl) (by kernel_rfl) (by kernel_rfl) (fun _ _ h => h) (by kernel_rfl) (fun d h => by cases h; rfl) (by kernel_rfl) (G' := [181, 15, 14]) (by kernel_rfl) fun Q0 q0 => ?_
       simp only [↓aops, ↓aop, ↓aWant, ↓aVal, go_sem, seval, nHead, isE, isSE, isV, hka, hq1, hq2, hcl, gM ha, gM hqc, hwa, intC, Int.natCast_add]
       refine q0 _ ?_
       clear q0 Q0
       refine NAny_takeK 1 rfl (by kernel_rfl) (by kernel_rfl) (by kernel_rfl) (fun _ _ h => h) (by kernel_rfl) (fun d h => by cases h; rfl) (by kernel_rfl) (G' := [182, 181, 15, 14]) (by kernel_rfl) fun Q0 q0 => ?_
       simp only [↓aops, ↓aop, ↓aWant, ↓aVal, go_sem, seval, nHead, isE, isSE, isV, hka, hq1, hq2, hcl, gM ha, gM hqc, hwa, intC, Int.natCast_add]
       refine q0 _ ?_
       clear q0 Q0
       refine NAny_takeK 2 rfl (by kernel_rfl) (by kernel_rfl) (by kernel_rfl) (fun _ _ h => h) (by kernel_rfl) (fun d h => by cases h; rfl) (by kernel_rfl) (G' := [183, 182, 181, 15, 14]) (by kernel_rfl) fun Q0 q0 => ?_
       simp only [↓aops, ↓aop, ↓aWant, ↓aVal, go_sem, seval, nHead, isE, isSE, isV, hka, hq1, hq2, hcl, gM ha, gM hqc, hwa, intC, Int.natCast_add]
       refine q0 _ ?_
       clear q0 Q0
       refine NAny_takeK 3 rfl (by kernel_rfl) (by kernel_rfl) (by kernel_rfl) (fun _ _ h => h) (by kernel_rfl) (fun d h => by cases h; rfl) (by kernel_rfl) (G' := [183, 182, 181, 15, 14]) (by kernel_rfl) fun Q0 q0 => ?_
       simp only [↓aops, ↓aop, ↓aWant, ↓aVal, go_sem, seval, nHead, isE, isSE, isV, hka, hq1, hq2, hcl, gM ha, gM hqc, hwa, intC, Int.natCast_add]
       refine q0 _ ?_
       clear q0 Q0
       refine NAny_takeK 4 rfl (by kernel_rfl) (by kernel_rfl) (by kernel_rfl) (fun _ _ h => h) (by kernel_rfl) (fun d h => by cases h; rfl) (by kernel_rfl) (G' := [185, 183, 182, 181, 15, 14]) (by kernel_rfl) fun Q0 q0 => ?_
       simp only [↓aops, ↓aop, ↓aWant, ↓aVal, go_sem, seval, nHead, isE, isSE, isV, hka, hq1, hq2, hcl, gM ha, gM hqc, hwa, intC, Int.natCast_add]
       refine q0 _ ?_
       clear q0 Q0
       refine NAny_takeK 5 rfl (by kernel_rfl) (by kernel_rfl) (by kernel_rfl) (fun _ _ h => h) (by kernel_rfl) (fun d h => by cases h; rfl) (by kernel_rfl) (G' := [186, 185, 183, 182, 181, 15, 14]) (by kernel_rfl) fun Q0 q0 => ?_
       simp only [↓aops, ↓aop, ↓aWant, ↓aVal, go_sem, seval, nHead, isE, isSE, isV, hka, hq1, hq2, hcl, gM ha, gM hqc, hwa, intC, Int.natCast_add]
       refine q0 _ ?_
       clear q0 Q0
       refine NAny_all1 (i := 6) (by kernel_rfl) rfl (fun d h => by cases h; rfl) ?_
       refine aAt_op rfl rfl fun Q0 q0 => ?_
       simp only [↓aops, ↓aop, ↓aWant, ↓aVal, go_sem, seval, hka, hq1, hq2, hcl, gM ha, gM hqc, hwa, intC, Int.natCast_add]
       refine APure.call (RVar_pure M a) ?_
       try simp only [bS, bA]
       refine q0 _ ⟨⟨rfl, rfl, rfl, rfl, rfl, rfl, rfl, trivial⟩, ?_⟩
       clear q0 Q0
       refine NAny_all1 (i := 7) (by kernel_rfl) rfl (fun d h => by cases h; rfl) ?_
       refine aAt_op rfl rfl fun Q0 q0 => ?_
       simp only [↓aops, ↓aop, ↓aWant, ↓aVal, go_sem, seval, hka, hq1, hq2, hcl, gM ha, gM hqc, hwa, intC, Int.natCast_add]
       refine q0 _ ⟨⟨rfl, rfl, rfl, rfl, rfl, rfl, rfl, trivial⟩, ?_⟩
       clear q0 Q0
       refine NAny_done (by kernel_rfl) ?_
       simp only [thenQ, blockQ, noGotoQ]
       refine y2 _ ?_
       try clear y2 Y2
       refine AWp_seqK fun Y2 y2 => ?_
       refine AWp_seqK fun Y3 y3 => ?_
       refine NAny_start 23 [15, 14] rfl mixed ?_
       dsimp only
       refine NAny_takeK 0 rfl (by kernel_rfl) (by kernel_rfl) (by kernel_rfl) (fun _ _ h => h) (by kernel_rfl) (fun d h => by cases h; rfl) (by kernel_rfl) (G' := [15, 14]) (by kernel_rfl) fun Q0 q0 => ?_
       simp only [↓aops, ↓aop, ↓aWant, ↓aVal, go_sem, seval, nHead, isE, isSE, isV, hka, hq1, hq2, hcl, gM ha, gM hqc, hwa, intC, Int.natCast_add]
       refine q0 _ ?_
       clear q0 Q0
       refine NAny_takeK 1 rfl (by kernel_rfl) (by kernel_rfl) (by kernel_rfl) (fun _ _ h => h) (by kernel_rfl) (fun d h => by cases h; rfl) (by kernel_rfl) (G' := [189, 15, 14]) (by kernel_rfl) fun Q0 q0 => ?_
       simp only [↓aops, ↓aop, ↓aWant, ↓aVal, go_sem, seval, nHead, isE, isSE, isV, hka, hq1, hq2, hcl, gM ha, gM hqc, hwa, intC, Int.natCast_add]
       refine q0 _ ?_
       clear q0 Q0
       refine NAny_takeK 2 rfl (by kernel_rfl) (by kernel_rfl) (by kernel_rfl) (fun _ _ h => h) (by kernel_rfl) (fun d h => by cases h; rfl) (by kernel_rfl) (G' := [189, 15, 14]) (by kernel_rfl) fun Q0 q0 => ?_
       simp only [↓aops, ↓aop, ↓aWant, ↓aVal, go_sem, seval, nHead, isE, isSE, isV, hka, hq1, hq2, hcl, gM ha, gM hqc, hwa, intC, Int.natCast_add]
       refine q0 _ ?_
       clear q0 Q0
       refine NAny_takeK 3 rfl (by kernel_rfl) (by kernel_rfl) (by kernel_rfl) (fun _ _ h => h) (by kernel_rfl) (fun d h => by cases h; rfl) (by kernel_rfl) (G' := [191, 189, 15, 14]) (by kernel_rfl) fun Q0 q0 => ?_
       simp only [↓aops, ↓aop, ↓aWant, ↓aVal, go_sem, seval, nHead, isE, isSE, isV, hka, hq1, hq2, hcl, gM ha, gM hqc, hwa, intC, Int.natCast_add]
       refine q0 _ ?_
       clear q0 Q0
       refine NAny_takeK 4 rfl (by kernel_rfl) (by kernel_rfl) (by kernel_rfl) (fun _ _ h => h) (by kernel_rfl) (fun d h => by cases h; rfl) (by kernel_rfl) (G' := [192, 191, 189, 15, 14]) (by kernel_rfl) fun Q0 q0 => ?_
       simp only [↓aops, ↓aop, ↓aWant, ↓aVal, go_sem, seval, nHead, isE, isSE, isV, hka, hq1, hq2, hcl, gM ha, gM hqc, hwa, intC, Int.natCast_add]
       refine q0 _ ?_
       clear q0 Q0
       refine NAny_takeK 6 rfl (by kernel_rfl) (by kernel_rfl) (by kernel_rfl) (fun _ _ h => h) (by kernel_rfl) (fun d h => by cases h; rfl) (by kernel_rfl) (G' := [194, 192, 191, 189, 15, 14]) (by kernel_rfl) fun Q0 q0 => ?_
       simp only [↓aops, ↓aop, ↓aWant, ↓aVal, go_sem, seval, nHead, isE, isSE, isV, hka, hq1, hq2, hcl, gM ha, gM hqc, hwa, intC, Int.natCast_add]
       refine q0 _ ?_
       clear q0 Q0
       refine NAny_takeK 7 rfl (by kernel_rfl) (by kernel_rfl) (by kernel_rfl) (fun _ _ h => h) (by kernel_rfl) (fun d h => by cases h; rfl) (by kernel_rfl) (G' := [194, 192, 191, 189, 15, 14]) (by kernel_rfl) fun Q0 q0 => ?_
       simp only [↓aops, ↓aop, ↓aWant, ↓aVal, go_sem, seval, nHead, isE, isSE, isV, hka, hq1, hq2, hcl, gM ha, gM hqc, hwa, intC, Int.natCast_add]
       refine q0 _ ?_
       clear q0 Q0
       refine NAny_all1 (i := 5) (by kernel_rfl) rfl (fun d h => by cases h; rfl) ?_
       refine aAt_op rfl rfl fun Q0 q0 => ?_
       simp only [↓aops, ↓aop, ↓aWant, ↓aVal, go_sem, seval, hka, hq1, hq2, hcl, gM ha, gM hqc, hwa, intC, Int.natCast_add]
       refine CCalls.at (CKind_c { S with F := x.1 } hHx.2.w.c.f hHx.2.w.c.fl hHx.2.w.c.wr hHx.2.vin a) (.cons (.v _) .nil) (fun _ => .v _) (i0 := 3) (i1 := 2) (i2 := 7) (i3 := 1) (i4 := 0) (i5 := 4) (i6 := 5) (i7 := 6) (by decide) (by simp) ⟨rfl, rfl, rfl, rfl, rfl, rfl, rfl, rfl, trivial⟩ (fun Z1 k1 hX1 => ?_)
       try dsimp only at hX1
       simp only [cObsAt, List.zip_cons_cons, List.zip_nil_left, List.zip_nil_right, putsO, putO, Nat.reduceEqDiff, ↓reduceIte]
       obtain ⟨F1, rfl⟩ : ∃ F1, Z1 = { S with F := F1 } := ⟨Z1.F, hX1.2.1⟩
       dsimp only at hX1
       have hK1 : KindR { S with F := x.1 } a k1 := hX1.2.2
       have hF1 : FSame S.F F1 := hx.1.trans hX1.1
       have hHx1 : Holds ((rightsE es).map EqT.p) { S with F := F1 } := hHS.fsame hF1 rfl
       have hk1 : k1 = kindN M c q := by (have h9 := hHx.kind_eq hce hK1 (hM ▸ hq1); rw [← hM] at h9; exact h9)
       subst hk1
       try simp only [bS, bA]
       refine q0 _ ⟨⟨rfl, rfl, rfl, rfl, rfl, rfl, trivial⟩, ?_⟩
       clear q0 Q0
       refine NAny_all1 (i := 8) (by kernel_rfl) rfl (fun d h => by cases h; rfl) ?_
       refine aAt_op rfl rfl fun Q0 q0 => ?_
       simp only [↓aops, ↓aop, ↓aWant, ↓aVal, go_sem, seval, hka, hq1, hq2, hcl, gM ha, gM hqc, hwa, intC, Int.natCast_add]
       refine APure.call (RKind_pure M c q hq2 hcl hML) ?_
       try simp only [bS, bA]
       refine q0 _ ⟨⟨rfl, rfl, rfl, rfl, rfl, rfl, trivial⟩, ?_⟩
       clear q0 Q0
       refine NAny_all1 (i := 9) (by kernel_rfl) rfl (fun d h => by cases h; rfl) ?_
       refine aAt_op rfl rfl fun Q0 q0 => ?_
       simp only [↓aops, ↓aop, ↓aWant, ↓aVal, go_sem, seval, hka, hq1, hq2, hcl, gM ha, gM hqc, hwa, intC, Int.natCast_add]
       refine q0 _ ⟨⟨rfl, rfl, rfl, rfl, rfl, rfl, trivial⟩, ?_⟩
       clear q0 Q0
       refine NAny_takeK 10 rfl (by kernel_rfl) (by kernel_rfl) (by kernel_rfl) (fun _ _ h => h) (by kernel_rfl) (fun d h => by cases h; rfl) (by kernel_rfl) (G' := [194, 192, 191, 189, 15, 14]) (by kernel_rfl) fun Q0 q0 => ?_
       simp only [↓aops, ↓aop, ↓aWant, ↓aVal, go_sem, seval, nHead, isE, isSE, isV, hka, hq1, hq2, hcl, gM ha, gM hqc, hwa, intC, Int.natCast_add]
       refine q0 _ ?_
       clear q0 Q0
       refine NAny_case 198 rfl (fun hc198 => ?_) (fun hc198 => ?_)
       ·
        simp only [List.set_cons_zero, List.set_cons_succ]
        exact absurd hc198 (by simp)
       ·
        simp only [List.set_cons_zero, List.set_cons_succ]
        refine NAny_takeK 11 rfl (by kernel_rfl) (by kernel_rfl) (by kernel_rfl) (fun _ _ h => h) (by kernel_rfl) (fun d h => by cases h; rfl) (by kernel_rfl) (G' := [194, 192, 191, 189, 15, 14]) (by kernel_rfl) fun Q0 q0 => ?_
        simp only [↓aops, ↓aop, ↓aWant, ↓aVal, go_sem, seval, nHead, isE, isSE, isV, hka, hq1, hq2, hcl, gM ha, gM hqc, hwa, intC, Int.natCast_add]
        refine q0 _ ?_
        clear q0 Q0
        refine NAny_takeK 12 rfl (by kernel_rfl) (by kernel_rfl) (by kernel_rfl) (fun _ _ h => h) (by kernel_rfl) (fun d h => by cases h; rfl) (by kernel_rfl) (G' := [200, 194, 192, 191, 189, 15, 14]) (by kernel_rfl) fun Q0 q0 => ?_
        simp only [↓aops, ↓aop, ↓aWant, ↓aVal, go_sem, seval, nHead, isE, isSE, isV, hka, hq1, hq2, hcl, gM ha, gM hqc, hwa, intC, Int.natCast_add]
        refine q0 _ ?_
        clear q0 Q0
        refine NAny_takeK 13 rfl (by kernel_rfl) (by kernel_rfl) (by kernel_rfl) (fun _ _ h => h) (by kernel_rfl) (fun d h => by cases h; rfl) (by kernel_rfl) (G' := [200, 194, 192, 191, 189, 15, 14]) (by kernel_rfl) fun Q0 q0 => ?_
        simp only [↓aops, ↓aop, ↓aWant, ↓aVal, go_sem, seval, nHead, isE, isSE, isV, hka, hq1, hq2, hcl, gM ha, gM hqc, hwa, intC, Int.natCast_add]
        refine q0 _ ?_
        clear q0 Q0
        refine NAny_takeK 14 rfl (by kernel_rfl) (by kernel_rfl) (by kernel_rfl) (fun _ _ h => h) (by kernel_rfl) (fun d h => by cases h; rfl) (by kernel_rfl) (G' := [202, 200, 194, 192, 191, 189, 15, 14]) (by kernel_rfl) fun Q0 q0 => ?_
        simp only [↓aops, ↓aop, ↓aWant, ↓aVal, go_sem, seval, nHead, isE, isSE, isV, hka, hq1, hq2, hcl, gM ha, gM hqc, hwa, intC, Int.natCast_add]
        refine q0 _ ?_
        clear q0 Q0
        refine NAny_takeK 15 rfl (by kernel_rfl) (by kernel_rfl) (by kernel_rfl) (fun _ _ h => h) (by kernel_rfl) (fun d h => by cases h; rfl) (by kernel_rfl) (G' := [203, 202, 200, 194, 192, 191, 189, 15, 14]) (by kernel_rfl) fun Q0 q0 => ?_
        simp only [↓aops, ↓aop, ↓aWant, ↓aVal, go_sem, seval, nHead, isE, isSE, isV, hka, hq1, hq2, hcl, gM ha, gM hqc, hwa, intC, Int.natCast_add]
        refine q0 _ ?_
        clear q0 Q0
        refine NAny_takeK 17 rfl (by kernel_rfl) (by kernel_rfl) (by kernel_rfl) (fun _ _ h => h) (by kernel_rfl) (fun d h => by cases h; rfl) (by kernel_rfl) (G' := [205, 203, 202, 200, 194, 192, 191, 189, 15, 14]) (by kernel_rfl) fun Q0 q0 => ?_
        simp only [↓aops, ↓aop, ↓aWant, ↓aVal, go_sem, seval, nHead, isE, isSE, isV, hka, hq1, hq2, hcl, gM ha, gM hqc, hwa, intC, Int.natCast_add]
        refine q0 _ ?_
        clear q0 Q0
        refine NAny_takeK 18 rfl (by kernel_rfl) (by kernel_rfl) (by kernel_rfl) (fun _ _ h => h) (by kernel_rfl) (fun d h => by cases h; rfl) (by kernel_rfl) (G' := [205, 203, 202, 200, 194, 192, 191, 189, 15, 14]) (by kernel_rfl) fun Q0 q0 => ?_
        simp only [↓aops, ↓aop, ↓aWant, ↓aVal, go_sem, seval, nHead, isE, isSE, isV, hka, hq1, hq2, hcl, gM ha, gM hqc, hwa, intC, Int.natCast_add]
        refine q0 _ ?_
        clear q0 Q0
        refine NAny_all1 (i := 16) (by kernel_rfl) rfl (fun d h => by cases h; rfl) ?_
        refine aAt_if rfl fun Q0 q0 => ?_
        simp only [↓aops, ↓aop, ↓aWant, ↓aVal, go_sem, seval, hka, hq1, hq2, hcl, gM ha, gM hqc, hwa, intC, Int.natCast_add]
        refine CCalls.at (Class_c { S with F := F1 } hHx1.2.w.c.f hcS hHx1.2.vin h64 (by simp only; omega) a) (.cons (.v _) .nil) (fun _ => dataInts _) (i0 := 3) (i1 := 2) (i2 := 7) (i3 := 1) (i4 := 0) (i5 := 4) (i6 := 5) (i7 := 6) (by decide) (by simp) ⟨rfl, rfl, rfl, rfl, rfl, rfl, rfl, rfl, trivial⟩ (fun Z2 u2 hX2 => ?_)
        try dsimp only at hX2
        simp only [cObsAt, List.zip_cons_cons, List.zip_nil_left, List.zip_nil_right, putsO, putO, Nat.reduceEqDiff, ↓reduceIte]
        obtain ⟨F2, rfl⟩ : ∃ F2, Z2 = { S with F := F2 } := ⟨Z2.F, hX2.2⟩
        dsimp only at hX2
        rw [show sortI (S.G.V.map Prod.fst) = L from hLS]
        rw [show clsF { S with F := F1 } a L = clsN M c q L from by (have h9 := hHx1.cls_eq hce (hM ▸ hq1); rw [← hM, ← hL] at h9; exact h9)]
        have hF2 : FSame S.F F2 := hF1.trans hX2.1
        try simp only [bS, bA]
        refine q0 _ ⟨⟨rfl, rfl, rfl, rfl, rfl, rfl, rfl, rfl, rfl, rfl, trivial⟩, ?_⟩
        clear q0 Q0
        refine NAny_all1 (i := 19) (by kernel_rfl) rfl (fun d h => by cases h; rfl) ?_
        refine aAt_if rfl fun Q0 q0 => ?_
        simp only [↓aops, ↓aop, ↓aWant, ↓aVal, go_sem, seval, hka, hq1, hq2, hcl, gM ha, gM hqc, hwa, intC, Int.natCast_add]
        refine APure.call (RCls_pure M c q hq2 hcl hML) ?_
        rw [← hL]
        try simp only [bS, bA]
        refine q0 _ ⟨⟨rfl, rfl, rfl, rfl, rfl, rfl, rfl, rfl, rfl, rfl, trivial⟩, ?_⟩
        clear q0 Q0
        refine NAny_all1 (i := 20) (by kernel_rfl) rfl (fun d h => by cases h; rfl) ?_
        refine aAt_if rfl fun Q0 q0 => ?_
        simp only [↓aops, ↓aop, ↓aWant, ↓aVal, go_sem, seval, hka, hq1, hq2, hcl, gM ha, gM hqc, hwa, intC, Int.natCast_add]
        refine APure.call (Ints_pure (clsN M c q L) (clsN M c q L)) ?_
        try simp only [bS, bA]
        refine q0 _ ⟨⟨rfl, rfl, rfl, rfl, rfl, rfl, rfl, rfl, rfl, rfl, trivial⟩, ?_⟩
        clear q0 Q0
        refine NAny_all1 (i := 21) (by kernel_rfl) rfl (fun d h => by cases h; rfl) ?_
        refine aAt_if rfl fun Q0 q0 => ?_
        simp only [↓aops, ↓aop, ↓aWant, ↓aVal, go_sem, seval, hka, hq1, hq2, hcl, gM ha, gM hqc, hwa, intC, Int.natCast_add]
        refine q0 _ ⟨⟨rfl, rfl, rfl, rfl, rfl, rfl, rfl, rfl, rfl, rfl, trivial⟩, ?_⟩
        clear q0 Q0
        refine NAny_all1 (i := 22) (by kernel_rfl) rfl (fun d h => by cases h; rfl) ?_
        refine aAt_op rfl rfl fun Q0 q0 => ?_
        simp only [↓aops, ↓aop, ↓aWant, ↓aVal, go_sem, seval, hka, hq1, hq2, hcl, gM ha, gM hqc, hwa, intC, Int.natCast_add]
        refine q0 _ ⟨⟨rfl, rfl, rfl, rfl, rfl, rfl, rfl, rfl, rfl, rfl, trivial⟩, ?_⟩
        clear q0 Q0
        refine NAny_done (by kernel_rfl) ?_
        simp only [thenQ, blockQ, noGotoQ]
        refine y3 _ ?_
        try clear y3 Y3
        refine AWp_cond rfl (fun hb210 => ?_) (fun hb210 => ?_)
        ·
         exact absurd hb210 (by simp)
        ·
         refine AWp_skip ?_
         try simp only [thenQ, blockQ, noGotoQ]
         refine y2 _ ?_
         try clear y2 Y2
         refine AWp_seqK fun Y2 y2 => ?_
         refine AWp_region ?_
         simp only [↓aops, ↓aop, ↓aWant, ↓aVal, go_sem, seval, hka, hq1, hq2, hcl, gM ha, gM hqc, hwa, intC, Int.natCast_add]
         refine y2 _ ?_
         try clear y2 Y2
         refine AWp_block ?_
         refine AWp_loopM (σ := FS × Nat) (mB 275 507938) (fun y => FSame S.F y.1 ∧ y.2 ≤ L.length) (fun y => [(18, .v (.int .i64 (y.2 : Int)))]) (fun y => [(0, .cells 115 [.own 4 y.1.up.length, .own 5 y.1.rank.length, .v (.int .i64 y.1.sets), .v (.int .i64 y.1.steps)]), (4, .row 3 1 (y.1.up.map nC)), (5, .row 3 1 (y.1.rank.map intC))]) (fun y => L.length - y.2) (F2, 0) (⟨hF2, Nat.zero_le _⟩) ?_ (fun y hy => ?_)
         ·
          simp only [maskL, setsL, putsO, putO, mB, List.set_cons_zero, List.set_cons_succ, seval]
          exact Weak.mk (by simp only [go_sem, Le.refl, Le.any, Le.slNil, Int.natCast_add, Int.cast_ofNat_Int, Int.natCast_one]) (fun _ _ h => h) rfl rfl
         simp only [maskL, setsL, putsO, putO, mB, List.set_cons_zero, List.set_cons_succ, seval]
         refine AWp_seqK fun Y2 y2 => ?_
         refine AWp_seqK fun Y3 y3 => ?_
         refine AWp_region ?_
         iterate 3 (refine aops_chunk 1 fun Q0 q0 => ?_; simp only [↓aops, ↓aop, ↓aWant, ↓aVal, go_sem, seval, hka, hq1, hq2, hcl, gM ha, gM hqc, hwa, intC, Int.natCast_add]; refine q0 _ ?_; clear q0 Q0; simp only [go_sem])
         simp only [↓aops, ↓aop, ↓aWant, ↓aVal, go_sem, seval, hka, hq1, hq2, hcl, gM ha, gM hqc, hwa, intC, Int.natCast_add]
         refine y3 _ ?_
         try clear y3 Y3
         refine AWp_cond rfl (fun hb214 => ?_) (fun hb214 => ?_)
         ·
          have hkb : y.2 < L.length := by simpa using hb214
          obtain ⟨b, hb⟩ : ∃ b, L[y.2]? = some b := ⟨_, List.getElem?_eq_getElem hkb⟩
          obtain ⟨p, hp1, hp2⟩ := var_idx (m := M) (n := b) (by rw [← hL]; exact List.mem_of_getElem? hb)
          have hHy : Holds ((rightsE es).map EqT.p) { S with F := y.1 } := hHS.fsame hy.1 rfl
          obtain ⟨pc, hpc⟩ : ∃ z, c[p]? = some z := ⟨_, List.getElem?_eq_getElem (by omega)⟩
          have hwb : IntKind.i64.wrap ((y.2 : Int) + 1) = (y.2 : Int) + 1 := wrap_in (by omega) (by omega)
          refine AWp_skip ?_
          try simp only [thenQ, blockQ, noGotoQ]
          refine y2 _ ?_
          try clear y2 Y2
          refine AWp_seqK fun Y2 y2 => ?_
          refine AWp_block ?_
          refine AWp_seqK fun Y3 y3 => ?_
          refine NAny_start 28 [15, 14] rfl mixed ?_
          dsimp only
          refine NAny_takeK 0 rfl (by kernel_rfl) (by kernel_rfl) (by kernel_rfl) (fun _ _ h => h) (by kernel_rfl) (fun d h => by cases h; rfl) (by kernel_rfl) (G' := [15, 14]) (by kernel_rfl) fun Q0 q0 => ?_
          simp only [↓aops, ↓aop, ↓aWant, ↓aVal, go_sem, seval, nHead, isE, isSE, isV, hka, hq1, hq2, hcl, gM ha, gM hqc, hwa, intC, Int.natCast_add, hkb, hp1, hp2, gM hb, gM hpc, hwb]
          refine q0 _ ?_
          clear q0 Q0
          refine NAny_takeK 1 rfl (by kernel_rfl) (by kernel_rfl) (by kernel_rfl) (fun _ _ h => h) (by kernel_rfl) (fun d h => by cases h; rfl) (by kernel_rfl) (G' := [218, 15, 14]) (by kernel_rfl) fun Q0 q0 => ?_
          simp only [↓aops, ↓aop, ↓aWant, ↓aVal, go_sem, seval, nHead, isE, isSE, isV, hka, hq1, hq2, hcl, gM ha, gM hqc, hwa, intC, Int.natCast_add, hkb, hp1, hp2, gM hb, gM hpc, hwb]
          refine q0 _ ?_
          clear q0 Q0
          refine NAny_takeK 2 rfl (by kernel_rfl) (by kernel_rfl) (by kernel_rfl) (fun _ _ h => h) (by kernel_rfl) (fun d h => by cases h; rfl) (by kernel_rfl) (G' := [218, 15, 14]) (by kernel_rfl) fun Q0 q0 => ?_
          simp only [↓aops, ↓aop, ↓aWant, ↓aVal, go_sem, seval, nHead, isE, isSE, isV, hka, hq1, hq2, hcl, gM ha, gM hqc, hwa, intC, Int.natCast_add, hkb, hp1, hp2, gM hb, gM hpc, hwb]
          refine q0 _ ?_
          clear q0 Q0
          refine NAny_takeK 3 rfl (by kernel_rfl) (by kernel_rfl) (by kernel_rfl) (fun _ _ h => h) (by kernel_rfl) (fun d h => by cases h; rfl) (by kernel_rfl) (G' := [220, 218, 15, 14]) (by kernel_rfl) fun Q0 q0 => ?_
          simp only [↓aops, ↓aop, ↓aWant, ↓aVal, go_sem, seval, nHead, isE, isSE, isV, hka, hq1, hq2, hcl, gM ha, gM hqc, hwa, intC, Int.natCast_add, hkb, hp1, hp2, gM hb, gM hpc, hwb]
          refine q0 _ ?_
          clear q0 Q0
          refine NAny_takeK 4 rfl (by kernel_rfl) (by kernel_rfl) (by kernel_rfl) (fun _ _ h => h) (by kernel_rfl) (fun d h => by cases h; rfl) (by kernel_rfl) (G' := [221, 220, 218, 15, 14]) (by kernel_rfl) fun Q0 q0 => ?_
          simp only [↓aops, ↓aop, ↓aWant, ↓aVal, go_sem, seval, nHead, isE, isSE, isV, hka, hq1, hq2, hcl, gM ha, gM hqc, hwa, intC, Int.natCast_add, hkb, hp1, hp2, gM hb, gM hpc, hwb]
          refine q0 _ ?_
          clear q0 Q0
          refine NAny_takeK 5 rfl (by kernel_rfl) (by kernel_rfl) (by kernel_rfl) (fun _ _ h => h) (by kernel_rfl) (fun d h => by cases h; rfl) (by kernel_rfl) (G' := [222, 221, 220, 218, 15, 14]) (by kernel_rfl) fun Q0 q0 => ?_
          simp only [↓aops, ↓aop, ↓aWant, ↓aVal, go_sem, seval, nHead, isE, isSE, isV, hka, hq1, hq2, hcl, gM ha, gM hqc, hwa, intC, Int.natCast_add, hkb, hp1, hp2, gM hb, gM hpc, hwb]
          refine q0 _ ?_
          clear q0 Q0
          refine NAny_takeK 6 rfl (by kernel_rfl) (by kernel_rfl) (by kernel_rfl) (fun _ _ h => h) (by kernel_rfl) (fun d h => by cases h; rfl) (by kernel_rfl) (G' := [222, 221, 220, 218, 15, 14]) (by kernel_rfl) fun Q0 q0 => ?_
          simp only [↓aops, ↓aop, ↓aWant, ↓aVal, go_sem, seval, nHead, isE, isSE, isV, hka, hq1, hq2, hcl, gM ha, gM hqc, hwa, intC, Int.natCast_add, hkb, hp1, hp2, gM hb, gM hpc, hwb]
          refine q0 _ ?_
          clear q0 Q0
          refine NAny_takeK 7 rfl (by kernel_rfl) (by kernel_rfl) (by kernel_rfl) (fun _ _ h => h) (by kernel_rfl) (fun d h => by cases h; rfl) (by kernel_rfl) (G' := [224, 222, 221, 220, 218, 15, 14]) (by kernel_rfl) fun Q0 q0 => ?_
          simp only [↓aops, ↓aop, ↓aWant, ↓aVal, go_sem, seval, nHead, isE, isSE, isV, hka, hq1, hq2, hcl, gM ha, gM hqc, hwa, intC, Int.natCast_add, hkb, hp1, hp2, gM hb, gM hpc, hwb]
          refine q0 _ ?_
          clear q0 Q0
          refine NAny_takeK 8 rfl (by kernel_rfl) (by kernel_rfl) (by kernel_rfl) (fun _ _ h => h) (by kernel_rfl) (fun d h => by cases h; rfl) (by kernel_rfl) (G' := [225, 224, 222, 221, 220, 218, 15, 14]) (by kernel_rfl) fun Q0 q0 => ?_
          simp only [↓aops, ↓aop, ↓aWant, ↓aVal, go_sem, seval, nHead, isE, isSE, isV, hka, hq1, hq2, hcl, gM ha, gM hqc, hwa, intC, Int.natCast_add, hkb, hp1, hp2, gM hb, gM hpc, hwb]
          refine q0 _ ?_
          clear q0 Q0
          refine NAny_takeK 10 rfl (by kernel_rfl) (by kernel_rfl) (by kernel_rfl) (fun _ _ h => h) (by kernel_rfl) (fun d h => by cases h; rfl) (by kernel_rfl) (G' := [227, 225, 224, 222, 221, 220, 218, 15, 14]) (by kernel_rfl) fun Q0 q0 => ?_
          simp only [↓aops, ↓aop, ↓aWant, ↓aVal, go_sem, seval, nHead, isE, isSE, isV, hka, hq1, hq2, hcl, gM ha, gM hqc, hwa, intC, Int.natCast_add, hkb, hp1, hp2, gM hb, gM hpc, hwb]
          refine q0 _ ?_
          clear q0 Q0
          refine NAny_takeK 11 rfl (by kernel_rfl) (by kernel_rfl) (by kernel_rfl) (fun _ _ h => h) (by kernel_rfl) (fun d h => by cases h; rfl) (by kernel_rfl) (G' := [228, 227, 225, 224, 222, 221, 220, 218, 15, 14]) (by kernel_rfl) fun Q0 q0 => ?_
          simp only [↓aops, ↓aop, ↓aWant, ↓aVal, go_sem, seval, nHead, isE, isSE, isV, hka, hq1, hq2, hcl, gM ha, gM hqc, hwa, intC, Int.natCast_add, hkb, hp1, hp2, gM hb, gM hpc, hwb]
          refine q0 _ ?_
          clear q0 Q0
          refine NAny_takeK 12 rfl (by kernel_rfl) (by kernel_rfl) (by kernel_rfl) (fun _ _ h => h) (by kernel_rfl) (fun d h => by cases h; rfl) (by kernel_rfl) (G' := [228, 227, 225, 224, 222, 221, 220, 218, 15, 14]) (by kernel_rfl) fun Q0 q0 => ?_
          simp only [↓aops, ↓aop, ↓aWant, ↓aVal, go_sem, seval, nHead, isE, isSE, isV, hka, hq1, hq2, hcl, gM ha, gM hqc, hwa, intC, Int.natCast_add, hkb, hp1, hp2, gM hb, gM hpc, hwb]
          refine q0 _ ?_
          clear q0 Q0
          refine NAny_takeK 13 rfl (by kernel_rfl) (by kernel_rfl) (by kernel_rfl) (fun _ _ h => h) (by kernel_rfl) (fun d h => by cases h; rfl) (by kernel_rfl) (G' := [230, 228, 227, 225, 224, 222, 221, 220, 218, 15, 14]) (by kernel_rfl) fun Q0 q0 => ?_
          simp only [↓aops, ↓aop, ↓aWant, ↓aVal, go_sem, seval, nHead, isE, isSE, isV, hka, hq1, hq2, hcl, gM ha, gM hqc, hwa, intC, Int.natCast_add, hkb, hp1, hp2, gM hb, gM hpc, hwb]
          refine q0 _ ?_
          clear q0 Q0
          refine NAny_takeK 14 rfl (by kernel_rfl) (by kernel_rfl) (by kernel_rfl) (fun _ _ h => h) (by kernel_rfl) (fun d h => by cases h; rfl) (by kernel_rfl) (G' := [231, 230, 228, 227, 225, 224, 222, 221, 220, 218, 15, 14]) (by kernel_rfl) fun Q0 q0 => ?_
          simp only [↓aops, ↓aop, ↓aWant, ↓aVal, go_sem, seval, nHead, isE, isSE, isV, hka, hq1, hq2, hcl, gM ha, gM hqc, hwa, intC, Int.natCast_add, hkb, hp1, hp2, gM hb, gM hpc, hwb]
          refine q0 _ ?_
          clear q0 Q0
          refine NAny_takeK 15 rfl (by kernel_rfl) (by kernel_rfl) (by kernel_rfl) (fun _ _ h => h) (by kernel_rfl) (fun d h => by cases h; rfl) (by kernel_rfl) (G' := [232, 231, 230, 228, 227, 225, 224, 222, 221, 220, 218, 15, 14]) (by kernel_rfl) fun Q0 q0 => ?_
          simp only [↓aops, ↓aop, ↓aWant, ↓aVal, go_sem, seval, nHead, isE, isSE, isV, hka, hq1, hq2, hcl, gM ha, gM hqc, hwa, intC, Int.natCast_add, hkb, hp1, hp2, gM hb, gM hpc, hwb]
          refine q0 _ ?_
          clear q0 Q0
          refine NAny_takeK 16 rfl (by kernel_rfl) (by kernel_rfl) (by kernel_rfl) (fun _ _ h => h) (by kernel_rfl) (fun d h => by cases h; rfl) (by kernel_rfl) (G' := [233, 232, 231, 230, 228, 227, 225, 224, 222, 221, 220, 218, 15, 14]) (by kernel_rfl) fun Q0 q0 => ?_
          simp only [↓aops, ↓aop, ↓aWant, ↓aVal, go_sem, seval, nHead, isE, isSE, isV, hka, hq1, hq2, hcl, gM ha, gM hqc, hwa, intC, Int.natCast_add, hkb, hp1, hp2, gM hb, gM hpc, hwb]
          refine q0 _ ?_
          clear q0 Q0
          refine NAny_takeK 17 rfl (by kernel_rfl) (by kernel_rfl) (by kernel_rfl) (fun _ _ h => h) (by kernel_rfl) (fun d h => by cases h; rfl) (by kernel_rfl) (G' := [234, 233, 232, 231, 230, 228, 227, 225, 224, 222, 221, 220, 218, 15, 14]) (by kernel_rfl) fun Q0 q0 => ?_
          simp only [↓aops, ↓aop, ↓aWant, ↓aVal, go_sem, seval, nHead, isE, isSE, isV, hka, hq1, hq2, hcl, gM ha, gM hqc, hwa, intC, Int.natCast_add, hkb, hp1, hp2, gM hb, gM hpc, hwb]
          refine q0 _ ?_
          clear q0 Q0
          refine NAny_takeK 18 rfl (by kernel_rfl) (by kernel_rfl) (by kernel_rfl) (fun _ _ h => h) (by kernel_rfl) (fun d h => by cases h; rfl) (by kernel_rfl) (G' := [235, 234, 233, 232, 231, 230, 228, 227, 225, 224, 222, 221, 220, 218, 15, 14]) (by kernel_rfl) fun Q0 q0 => ?_
          simp only [↓aops, ↓aop, ↓aWant, ↓aVal, go_sem, seval, nHead, isE, isSE, isV, hka, hq1, hq2, hcl, gM ha, gM hqc, hwa, intC, Int.natCast_add, hkb, hp1, hp2, gM hb, gM hpc, hwb]
          refine q0 _ ?_
          clear q0 Q0
          refine NAny_takeK 19 rfl (by kernel_rfl) (by kernel_rfl) (by kernel_rfl) (fun _ _ h => h) (by kernel_rfl) (fun d h => by cases h; rfl) (by kernel_rfl) (G' := [236, 235, 234, 233, 232, 231, 230, 228, 227, 225, 224, 222, 221, 220, 218, 15, 14]) (by kernel_rfl) fun Q0 q0 => ?_
          simp only [↓aops, ↓aop, ↓aWant, ↓aVal, go_sem, seval, nHead, isE, isSE, isV, hka, hq1, hq2, hcl, gM ha, gM hqc, hwa, intC, Int.natCast_add, hkb, hp1, hp2, gM hb, gM hpc, hwb]
          refine q0 _ ?_
          clear q0 Q0
          refine NAny_takeK 20 rfl (by kernel_rfl) (by kernel_rfl) (by kernel_rfl) (fun _ _ h => h) (by kernel_rfl) (fun d h => by cases h; rfl) (by kernel_rfl) (G' := [236, 235, 234, 233, 232, 231, 230, 228, 227, 225, 224, 222, 221, 220, 218, 15, 14]) (by kernel_rfl) fun Q0 q0 => ?_
          simp only [↓aops, ↓aop, ↓aWant, ↓aVal, go_sem, seval, nHead, isE, isSE, isV, hka, hq1, hq2, hcl, gM ha, gM hqc, hwa, intC, Int.natCast_add, hkb, hp1, hp2, gM hb, gM hpc, hwb]
          refine q0 _ ?_
          clear q0 Q0
          refine NAny_takeK 21 rfl (by kernel_rfl) (by kernel_rfl) (by kernel_rfl) (fun _ _ h => h) (by kernel_rfl) (fun d h => by cases h; rfl) (by kernel_rfl) (G' := [238, 236, 235, 234, 233, 232, 231, 230, 228, 227, 225, 224, 222, 221, 220, 218, 15, 14]) (by kernel_rfl) fun Q0 q0 => ?_
          simp only [↓aops, ↓aop, ↓aWant, ↓aVal, go_sem, seval, nHead, isE, isSE, isV, hka, hq1, hq2, hcl, gM ha, gM hqc, hwa, intC, Int.natCast_add, hkb, hp1, hp2, gM hb, gM hpc, hwb]
          refine q0 _ ?_
          clear q0 Q0
          refine NAny_takeK 22 rfl (by kernel_rfl) (by kernel_rfl) (by kernel_rfl) (fun _ _ h => h) (by kernel_rfl) (fun d h => by cases h; rfl) (by kernel_rfl) (G' := [239, 238, 236, 235, 234, 233, 232, 231, 230, 228, 227, 225, 224, 222, 221, 220, 218, 15, 14]) (by kernel_rfl) fun Q0 q0 => ?_
          simp only [↓aops, ↓aop, ↓aWant, ↓aVal, go_sem, seval, nHead, isE, isSE, isV, hka, hq1, hq2, hcl, gM ha, gM hqc, hwa, intC, Int.natCast_add, hkb, hp1, hp2, gM hb, gM hpc, hwb]
          refine q0 _ ?_
          clear q0 Q0
          refine NAny_all1 (i := 9) (by kernel_rfl) rfl (fun d h => by cases h; rfl) ?_
          refine aAt_op rfl rfl fun Q0 q0 => ?_
          simp only [↓aops, ↓aop, ↓aWant, ↓aVal, go_sem, seval, hka, hq1, hq2, hcl, gM ha, gM hqc, hwa, intC, Int.natCast_add, hkb, hp1, hp2, gM hb, gM hpc, hwb]
          refine CCalls.at (CSame_c { S with F := y.1 } hHy.2.w.c.f hHy.2.vin a b) (.cons (.v _) (.cons (.v _) .nil)) (fun _ => .v _) (i0 := 3) (i1 := 2) (i2 := 7) (i3 := 1) (i4 := 0) (i5 := 4) (i6 := 5) (i7 := 6) (by decide) (by simp) ⟨rfl, rfl, rfl, rfl, rfl, rfl, rfl, rfl, trivial⟩ (fun Z3 b3 hX3 => ?_)
          try dsimp only at hX3
          simp only [cObsAt, List.zip_cons_cons, List.zip_nil_left, List.zip_nil_right, putsO, putO, Nat.reduceEqDiff, ↓reduceIte]
          obtain ⟨F3, rfl⟩ : ∃ F3, Z3 = { S with F := F3 } := ⟨Z3.F, hX3.2.1⟩
          dsimp only at hX3
          have hr3 : SameR { S with F := y.1 } a b b3 := hX3.2.2
          have hF3 : FSame S.F F3 := hy.1.trans hX3.1
          have hb3 : b3 = decide (c[q]? = c[p]?) := hr3.eq.trans (hHy.same_eq hce (hM ▸ hq1) (hM ▸ hp1))
          subst hb3
          try simp only [bS, bA]
          refine q0 _ ⟨⟨rfl, rfl, rfl, rfl, rfl, rfl, rfl, rfl, rfl, rfl, rfl, rfl, rfl, rfl, rfl, rfl, rfl, rfl, rfl, trivial⟩, ?_⟩
          clear q0 Q0
          refine NAny_all1 (i := 23) (by kernel_rfl) rfl (fun d h => by cases h; rfl) ?_
          refine aAt_op rfl rfl fun Q0 q0 => ?_
          simp only [↓aops, ↓aop, ↓aWant, ↓aVal, go_sem, seval, hka, hq1, hq2, hcl, gM ha, gM hqc, hwa, intC, Int.natCast_add, hkb, hp1, hp2, gM hb, gM hpc, hwb]
          refine APure.call (RVar_pure M b) ?_
          try simp only [bS, bA]
          refine q0 _ ⟨⟨rfl, rfl, rfl, rfl, rfl, rfl, rfl, rfl, rfl, rfl, rfl, rfl, rfl, rfl, rfl, rfl, rfl, rfl, rfl, trivial⟩, ?_⟩
          clear q0 Q0
          refine NAny_takeK 24 rfl (by kernel_rfl) (by kernel_rfl) (by kernel_rfl) (fun _ _ h => h) (by kernel_rfl) (fun d h => by cases h; rfl) (by kernel_rfl) (G' := [241, 239, 238, 236, 235, 234, 233, 232, 231, 230, 228, 227, 225, 224, 222, 221, 220, 218, 15, 14]) (by kernel_rfl) fun Q0 q0 => ?_
          simp only [↓aops, ↓aop, ↓aWant, ↓aVal, go_sem, seval, nHead, isE, isSE, isV, hka, hq1, hq2, hcl, gM ha, gM hqc, hwa, intC, Int.natCast_add, hkb, hp1, hp2, gM hb, gM hpc, hwb]
          refine q0 _ ?_
          clear q0 Q0
          refine NAny_takeK 25 rfl (by kernel_rfl) (by kernel_rfl) (by kernel_rfl) (fun _ _ h => h) (by kernel_rfl) (fun d h => by cases h; rfl) (by kernel_rfl) (G' := [242, 241, 239, 238, 236, 235, 234, 233, 232, 231, 230, 228, 227, 225, 224, 222, 221, 220, 218, 15, 14]) (by kernel_rfl) fun Q0 q0 => ?_
          simp only [↓aops, ↓aop, ↓aWant, ↓aVal, go_sem, seval, nHead, isE, isSE, isV, hka, hq1, hq2, hcl, gM ha, gM hqc, hwa, intC, Int.natCast_add, hkb, hp1, hp2, gM hb, gM hpc, hwb]
          refine q0 _ ?_
          clear q0 Q0
          refine NAny_all1 (i := 26) (by kernel_rfl) rfl (fun d h => by cases h; rfl) ?_
          refine aAt_op rfl rfl fun Q0 q0 => ?_
          simp only [↓aops, ↓aop, ↓aWant, ↓aVal, go_sem, seval, hka, hq1, hq2, hcl, gM ha, gM hqc, hwa, intC, Int.natCast_add, hkb, hp1, hp2, gM hb, gM hpc, hwb]
          refine q0 _ ⟨⟨rfl, rfl, rfl, rfl, rfl, rfl, rfl, rfl, rfl, rfl, rfl, rfl, rfl, rfl, rfl, rfl, rfl, rfl, rfl, rfl, rfl, trivial⟩, ?_⟩
          clear q0 Q0
          refine NAny_all1 (i := 27) (by kernel_rfl) rfl (fun d h => by cases h; rfl) ?_
          refine aAt_op rfl rfl fun Q0 q0 => ?_
          simp only [↓aops, ↓aop, ↓aWant, ↓aVal, go_sem, seval, hka, hq1, hq2, hcl, gM ha, gM hqc, hwa, intC, Int.natCast_add, hkb, hp1, hp2, gM hb, gM hpc, hwb]
          refine q0 _ ⟨⟨rfl, rfl, rfl, rfl, rfl, rfl, rfl, rfl, rfl, rfl, rfl, rfl, rfl, rfl, rfl, rfl, rfl, rfl, rfl, rfl, rfl, trivial⟩, ?_⟩
          clear q0 Q0
          refine NAny_done (by kernel_rfl) ?_
          simp only [thenQ, blockQ, noGotoQ]
          refine y3 _ ?_
          try clear y3 Y3
          refine AWp_cond rfl (fun hb244 => ?_) (fun hb244 => ?_)
          ·
           exact absurd hb244 (by rw [hqc, hpc, show (decide (some qc = some pc)) = (qc == pc) from by (rw [Bool.eq_iff_iff]; simp)]; simp)
          ·
           refine AWp_skip ?_
           try simp only [thenQ, blockQ, noGotoQ]
           refine y2 _ ?_
           try clear y2 Y2
           refine AWp_region ?_
           iterate 2 (refine aops_chunk 1 fun Q0 q0 => ?_; simp only [↓aops, ↓aop, ↓aWant, ↓aVal, go_sem, seval, hka, hq1, hq2, hcl, gM ha, gM hqc, hwa, intC, Int.natCast_add, hkb, hp1, hp2, gM hb, gM hpc, hwb]; refine q0 _ ?_; clear q0 Q0; simp only [go_sem])
           simp only [↓aops, ↓aop, ↓aWant, ↓aVal, go_sem, seval, hka, hq1, hq2, hcl, gM ha, gM hqc, hwa, intC, Int.natCast_add, hkb, hp1, hp2, gM hb, gM hpc, hwb]
           refine ⟨(F3, y.2 + 1), ⟨hF3, by simp only; omega⟩, (by simp only; omega), ?_⟩
           simp only [maskL, setsL, putsO, putO, mB, List.set_cons_zero, List.set_cons_succ, seval, Int.natCast_add, Int.natCast_one, Int.cast_ofNat_Int]
           refine Weak.sub ?_ ⟨rfl, rfl, rfl, rfl, rfl, rfl, rfl, rfl, trivial⟩ (by first | omega | (simp only; omega)) (by first | omega | (simp only; omega)) ?_ ?_
           · simp only [go_sem, Le.refl, Le.any]
           · repeat' first | exact trivial | exact .any _ | exact .ptr (by omega) | exact .own (by omega) | exact .v _ _ | exact Und.data (EqT.dataSl _) | exact Und.data (dataInts _) | exact Und.data (.eptr (.cons (RNode.dataSl _) (.cons (dataInts _) .nil))) | (refine ⟨?_, ?_⟩)
           · repeat' first | exact trivial | (with_reducible omega) | exact .any _ | exact .ptr (by omega) | exact .own (by omega) | exact .v _ _ | exact .map (by omega) | exact Und.oslG (by omega) | exact Und.rowI (nC_data _) | exact Und.rowI (iC_data _) | exact (fun p hp => .data (vC_data _ p hp)) | (refine ⟨?_, ?_⟩)
         ·
          refine AWp_exit ?_
          simp only [thenQ, blockQ, noGotoQ, bA, Nat.reduceEqDiff, ↓reduceIte]
          refine y1 _ ?_
          try clear y1 Y1
          refine AWp_region ?_
          iterate 2 (refine aops_chunk 1 fun Q0 q0 => ?_; simp only [↓aops, ↓aop, ↓aWant, ↓aVal, go_sem, seval, hka, hq1, hq2, hcl, gM ha, gM hqc, hwa, intC, Int.natCast_add]; refine q0 _ ?_; clear q0 Q0; simp only [go_sem])
          simp only [↓aops, ↓aop, ↓aWant, ↓aVal, go_sem, seval, hka, hq1, hq2, hcl, gM ha, gM hqc, hwa, intC, Int.natCast_add]
          refine ⟨(y.1, x.2 + 1), ⟨hy.1, by simp only; omega⟩, (by simp only; omega), ?_⟩
          simp only [maskL, setsL, putsO, putO, mB, List.set_cons_zero, List.set_cons_succ, seval, Int.natCast_add, Int.natCast_one, Int.cast_ofNat_Int]
          refine Weak.sub ?_ ⟨rfl, rfl, rfl, rfl, rfl, rfl, rfl, rfl, trivial⟩ (by first | omega | (simp only; omega)) (by first | omega | (simp only; omega)) ?_ ?_
          · simp only [go_sem, Le.refl, Le.any]
          · repeat' first | exact trivial | exact .any _ | exact .ptr (by omega) | exact .own (by omega) | exact .v _ _ | exact Und.data (EqT.dataSl _) | exact Und.data (dataInts _) | exact Und.data (.eptr (.cons (RNode.dataSl _) (.cons (dataInts _) .nil))) | (refine ⟨?_, ?_⟩)
          · repeat' first | exact trivial | (with_reducible omega) | exact .any _ | exact .ptr (by omega) | exact .own (by omega) | exact .v _ _ | exact .map (by omega) | exact Und.oslG (by omega) | exact Und.rowI (nC_data _) | exact Und.rowI (iC_data _) | exact (fun p hp => .data (vC_data _ p hp)) | (refine ⟨?_, ?_⟩)
      ·
       have hHx : Holds ((rightsE es).map EqT.p) { S with F := x.1 } := hHS.fsame hx.1 rfl
       refine AWp_exit ?_
       simp only [thenQ, blockQ, noGotoQ, bA, Nat.reduceEqDiff, ↓reduceIte]
       refine y0 _ ?_
       try clear y0 Y0
       refine AWp_seqK fun Y0 y0 => ?_
       refine AWp_region ?_
       iterate 3 (refine aops_chunk 1 fun Q0 q0 => ?_; simp only [↓aops, ↓aop, ↓aWant, ↓aVal, go_sem, seval]; refine q0 _ ?_; clear q0 Q0; simp only [go_sem])
       refine aops_chunk 1 fun Q0 q0 => ?_
       simp only [↓aops, ↓aop, ↓aWant, ↓aVal, go_sem, seval]
       refine APure.call (RVar_pure M n) ?_
       try simp only [bS, bA, thenQ, blockQ, noGotoQ]
       refine q0 _ ?_
       clear q0 Q0
       simp only [go_sem]
       refine aops_chunk 1 fun Q0 q0 => ?_
       simp only [↓aops, ↓aop, ↓aWant, ↓aVal, go_sem, seval]
       refine q0 _ ?_
       clear q0 Q0
       simp only [go_sem]
       simp only [↓aops, ↓aop, ↓aWant, ↓aVal, go_sem, seval]
       refine y0 _ ?_
       try clear y0 Y0
       refine AWp_seqK fun Y0 y0 => ?_
       refine AWp_region ?_
       iterate 3 (refine aops_chunk 1 fun Q0 q0 => ?_; simp only [↓aops, ↓aop, ↓aWant, ↓aVal, go_sem, seval]; refine q0 _ ?_; clear q0 Q0; simp only [go_sem])
       refine aops_chunk 1 fun Q0 q0 => ?_
       simp only [↓aops, ↓aop, ↓aWant, ↓aVal, go_sem, seval]
       refine CCalls.at (CSame_c { S with F := x.1 } hHx.2.w.c.f hHx.2.vin n n) (.cons (.v _) (.cons (.v _) .nil)) (fun _ => .v _) (i0 := 3) (i1 := 2) (i2 := 7) (i3 := 1) (i4 := 0) (i5 := 4) (i6 := 5) (i7 := 6) (by decide) (by simp) ⟨rfl, rfl, rfl, rfl, rfl, rfl, rfl, rfl, trivial⟩ (fun Z5 b5 hX5 => ?_)
       try dsimp only at hX5
       simp only [cObsAt, List.zip_cons_cons, List.zip_nil_left, List.zip_nil_right, putsO, putO, Nat.reduceEqDiff, ↓reduceIte]
       obtain ⟨F5, rfl⟩ : ∃ F5, Z5 = { S with F := F5 } := ⟨Z5.F, hX5.2.1⟩
       dsimp only at hX5
       have hr5 : SameR { S with F := x.1 } n n b5 := hX5.2.2
       have hF5 : FSame S.F F5 := hx.1.trans hX5.1
       have hHx5 : Holds ((rightsE es).map EqT.p) { S with F := F5 } := hHS.fsame hF5 rfl
       have hb5 : b5 = decide (0 ≤ idxI (RNode.isVar n) M) := by (rw [hM]; exact hr5.eq.trans (hHx.same_self n))
       subst hb5
       try simp only [bS, bA, thenQ, blockQ, noGotoQ]
       iterate 3 (refine q0 _ ?_; clear q0 Q0; simp only [go_sem]; refine aops_chunk 1 fun Q0 q0 => ?_; simp only [↓aops, ↓aop, ↓aWant, ↓aVal, go_sem, seval])
       refine q0 _ ?_
       clear q0 Q0
       simp only [go_sem]
       refine aops_case 256 rfl (fun hc256 => ?_) (fun hc256 => ?_)
       ·
        simp only [List.set_cons_zero, List.set_cons_succ]
        iterate 2 (refine aops_chunk 1 fun Q0 q0 => ?_; simp only [↓aops, ↓aop, ↓aWant, ↓aVal, go_sem, seval]; refine q0 _ ?_; clear q0 Q0; simp only [go_sem])
        refine aops_case 258 rfl (fun hc258 => ?_) (fun hc258 => ?_)
        ·
         simp only [List.set_cons_zero, List.set_cons_succ]
         iterate 14 (refine aops_chunk 1 fun Q0 q0 => ?_; simp only [↓aops, ↓aop, ↓aWant, ↓aVal, go_sem, seval]; refine q0 _ ?_; clear q0 Q0; simp only [go_sem])
         refine aops_chunk 1 fun Q0 q0 => ?_
         simp only [↓aops, ↓aop, ↓aWant, ↓aVal, go_sem, seval]
         refine APure.call (awake12_pure) ?_
         try simp only [bS, bA, thenQ, blockQ, noGotoQ]
         refine q0 _ ?_
         clear q0 Q0
         simp only [go_sem]
         refine aops_chunk 1 fun Q0 q0 => ?_
         simp only [↓aops, ↓aop, ↓aWant, ↓aVal, go_sem, seval]
         refine q0 _ ?_
         clear q0 Q0
         simp only [go_sem]
         simp only [↓aops, ↓aop, ↓aWant, ↓aVal, go_sem, seval]
         refine y0 _ ?_
         try clear y0 Y0
         refine AWp_ret ?_
         try simp only [thenQ, blockQ, noGotoQ, retQ, aRes, tupOf, bS, bA]
         exact Le.refl _
        ·
         simp only [List.set_cons_zero, List.set_cons_succ]
         have hng : ¬ 0 ≤ idxI (RNode.isVar n) M := by simpa using hc258
         iterate 2 (refine aops_chunk 1 fun Q0 q0 => ?_; simp only [↓aops, ↓aop, ↓aWant, ↓aVal, go_sem, seval]; refine q0 _ ?_; clear q0 Q0; simp only [go_sem])
         refine aops_chunk 1 fun Q0 q0 => ?_
         simp only [↓aops, ↓aop, ↓aWant, ↓aVal, go_sem, seval]
         refine CCalls.at (CKind_c { S with F := F5 } hHx5.2.w.c.f hHx5.2.w.c.fl hHx5.2.w.c.wr hHx5.2.vin n) (.cons (.v _) .nil) (fun _ => .v _) (i0 := 3) (i1 := 2) (i2 := 7) (i3 := 1) (i4 := 0) (i5 := 4) (i6 := 5) (i7 := 6) (by decide) (by simp) ⟨rfl, rfl, rfl, rfl, rfl, rfl, rfl, rfl, trivial⟩ (fun Z6 k6 hX6 => ?_)
         try dsimp only at hX6
         simp only [cObsAt, List.zip_cons_cons, List.zip_nil_left, List.zip_nil_right, putsO, putO, Nat.reduceEqDiff, ↓reduceIte]
         obtain ⟨F6, rfl⟩ : ∃ F6, Z6 = { S with F := F6 } := ⟨Z6.F, hX6.2.1⟩
         dsimp only at hX6
         have hK6 : KindR { S with F := F5 } n k6 := hX6.2.2
         have hF6 : FSame S.F F6 := hF5.trans hX6.1
         have hHx6 : Holds ((rightsE es).map EqT.p) { S with F := F6 } := hHS.fsame hF6 rfl
         have hk6 : k6 = 0 := hHx5.kind_no hK6 (by rw [← hM]; omega)
         subst hk6
         try simp only [bS, bA, thenQ, blockQ, noGotoQ]
         iterate 2 (refine q0 _ ?_; clear q0 Q0; simp only [go_sem]; refine aops_chunk 1 fun Q0 q0 => ?_; simp only [↓aops, ↓aop, ↓aWant, ↓aVal, go_sem, seval])
         refine q0 _ ?_
         clear q0 Q0
         simp only [go_sem]
         refine aops_case 263 rfl (fun hc263 => ?_) (fun hc263 => ?_)
         ·
          simp only [List.set_cons_zero, List.set_cons_succ]
          iterate 2 (refine aops_chunk 1 fun Q0 q0 => ?_; simp only [↓aops, ↓aop, ↓aWant, ↓aVal, go_sem, seval]; refine q0 _ ?_; clear q0 Q0; simp only [go_sem])
          refine aops_chunk 1 fun Q0 q0 => ?_
          simp only [↓aops, ↓aop, ↓aWant, ↓aVal, go_sem, seval]
          refine CCalls.at (Class_c { S with F := F6 } hHx6.2.w.c.f hcS hHx6.2.vin h64 (by simp only; omega) n) (.cons (.v _) .nil) (fun _ => dataInts _) (i0 := 3) (i1 := 2) (i2 := 7) (i3 := 1) (i4 := 0) (i5 := 4) (i6 := 5) (i7 := 6) (by decide) (by simp) ⟨rfl, rfl, rfl, rfl, rfl, rfl, rfl, rfl, trivial⟩ (fun Z7 u7 hX7 => ?_)
          try dsimp only at hX7
          simp only [cObsAt, List.zip_cons_cons, List.zip_nil_left, List.zip_nil_right, putsO, putO, Nat.reduceEqDiff, ↓reduceIte]
          obtain ⟨F7, rfl⟩ : ∃ F7, Z7 = { S with F := F7 } := ⟨Z7.F, hX7.2⟩
          dsimp only at hX7
          rw [show sortI (S.G.V.map Prod.fst) = L from hLS]
          rw [show clsF { S with F := F6 } n L = [] from hHx6.cls_no (by rw [← hM]; omega) L]
          try simp only [bS, bA, thenQ, blockQ, noGotoQ]
          iterate 6 (refine q0 _ ?_; clear q0 Q0; simp only [go_sem]; refine aops_chunk 1 fun Q0 q0 => ?_; simp only [↓aops, ↓aop, ↓aWant, ↓aVal, go_sem, seval])
          refine q0 _ ?_
          clear q0 Q0
          simp only [go_sem]
          refine aops_case 272 rfl (fun hc272 => ?_) (fun hc272 => ?_)
          ·
           simp only [List.set_cons_zero, List.set_cons_succ]
           refine aops_chunk 1 fun Q0 q0 => ?_
           simp only [↓aops, ↓aop, ↓aWant, ↓aVal, go_sem, seval]
           refine APure.call (awake12_pure) ?_
           try simp only [bS, bA, thenQ, blockQ, noGotoQ]
           refine q0 _ ?_
           clear q0 Q0
           simp only [go_sem]
           refine aops_chunk 1 fun Q0 q0 => ?_
           simp only [↓aops, ↓aop, ↓aWant, ↓aVal, go_sem, seval]
           refine q0 _ ?_
           clear q0 Q0
           simp only [go_sem]
           simp only [↓aops, ↓aop, ↓aWant, ↓aVal, go_sem, seval]
           refine y0 _ ?_
           try clear y0 Y0
           refine AWp_ret ?_
           try simp only [thenQ, blockQ, noGotoQ, retQ, aRes, tupOf, bS, bA]
           exact Le.refl _
          ·
           simp only [List.set_cons_zero, List.set_cons_succ]
           exact absurd hc272 (by simp)
         ·
          simp only [List.set_cons_zero, List.set_cons_succ]
          exact absurd hc263 (by simp)
       ·
        simp only [List.set_cons_zero, List.set_cons_succ]
        exact absurd hc256 (by simp)
end Go.Proofs.Ytjjjckjebkmnjaa
namespace Go.Proofs.Ytjjjckjebkmnjaa.unifyClasses
open Go Go.ChangeShapes Go.WideShapes Go.ChangeAt Go.RowKit
set_option linter.unusedVariables false
theorem own : ownKnob Try.prog.godebug = none := by kernel_rfl
theorem laidOut : laidOutB Try.prog = true := by kernel_rfl
theorem cT : Try.prog.cellsOf 30 = 3 := by kernel_rfl
theorem cI : Try.prog.cellsOf 3 = 1 := by kernel_rfl
theorem cS : Try.prog.cellsOf 28 = 1 := by kernel_rfl
section
variable {H : Type} {enc : TypeId × Value → H} {w : World} {base : Nat} {spare : Nat → Bool} {held : Bool}
theorem rdT (fuel : Nat) : Rd enc Try.prog w base spare held Env.none fuel 30 Ty.cells :=
  rd_ty Try.underlying30 cT rfl rfl rfl rfl rfl rfl Try.underlying3 cI Try.underlying28 cS fuel
theorem rdS (fuel : Nat) : Rd enc Try.prog w base spare held Env.none fuel 28 (fun xs : List Ty => [.sl 3 (xs.map Ty.cells)]) :=
  rd_slice Try.underlying28 cT (by omega) Ty.cells_len fun n _ => rdT n
theorem cP : Try.prog.cellsOf 32 = 2 := by kernel_rfl
theorem cE : Try.prog.cellsOf 34 = 8 := by kernel_rfl
theorem rdE (fuel : Nat) : Rd enc Try.prog w base spare held Env.none fuel 34 EqT.cells :=
  rd_eq Try.underlying34 cE cT cP rfl rfl rfl rfl rfl rfl rdT (fun n => rd_two Try.underlying32 cP rfl rfl rfl rfl Try.underlying3 cI n) fuel
theorem rdEs (fuel : Nat) : Rd enc Try.prog w base spare held Env.none fuel 22 (fun xs : List EqT => [.sl 8 (xs.map EqT.cells)]) :=
  rd_slice Try.underlying22 cE (by omega) (fun _ => rfl) fun n _ => rdE n
end
set_option maxRecDepth 100000 in
theorem lifted (os : Go.Os) (started : os.Started) (H : Type) (enc : TypeId × Value → H) :
    ReturnsInHanded {} Try.checked os 3 .any (Rows.unifyClassesSpec.pre6 enc Try.prog Try.f3 Rows.unifyClassesRow.domain false) (Rows.unifyClassesSpec.post enc Try.prog Try.f3 false true false false) := by
  refine returnsInHanded_of_change (C := Try.checked) own started (by kernel_rfl) Try.func3
    (ChangeSpec.witness6 (enc := enc) (C := Try.checked) false ⟨#[], #[.slice none 0 0, .int .i64 0], []⟩ 8 (by kernel_rfl) (by kernel_rfl) (by kernel_rfl) (by kernel_rfl)) ?_
  intro W base args ds gs before hval0 hW hcnd _
  have hval : ∀ (j : Nat) t v, Try.f3.params[j]? = some t → args[j]? = some v → Value.okWide Try.prog W .any base t v := hval0
  have hW' := hW
  obtain ⟨p, q, hA0, hV, rfl, hfz, hnd⟩ := hW
  have hA : DataW.TrodAll enc Try.prog W 0 (fun _ => true) true Try.f3.params.toList args.toList ds p := hA0
  rw [Try.params3] at hA hval
  obtain ⟨v0, vs0, d0, ds0, p0, q0, hargs, rfl, rfl, h0, r0⟩ := trodAll_cons hA
  obtain ⟨v1, vs1, d1, ds1, p1, q1, rfl, rfl, rfl, h1, r1⟩ := trodAll_cons r0
  obtain ⟨rfl, rfl, rfl⟩ := trodAll_nil r1
  obtain rfl : args = #[v0, v1] := by cases args; simp_all
  obtain ⟨rfl, rfl⟩ := trodVars_none hV
  have k0 := h0
  have lt0 : ∀ x ∈ p0, x.block < W.heap.size := by obtain ⟨m, hm⟩ := k0; exact DataW.trod_lt m _ _ _ hm
  obtain ⟨b0, len0, cap0, rfl⟩ := okWide_slice Try.underlying22 (hval 0 22 v0 rfl rfl)
  obtain ⟨P0, hr0⟩ : ∃ P : List EqT, Rp Env.none (fun _ _ => False) W (.sl 8 (P.map EqT.cells)) (.slice b0 len0 cap0) := by
    obtain ⟨m, hm⟩ := h0
    obtain ⟨P, _, hr⟩ := rdEs m _ _ hm
    exact ⟨P, hr 0 _ _ rfl rfl⟩
  obtain ⟨a1, rfl, rfl, rfl, w1⟩ := open_int Try.underlying3 (hval 1 3 v1 rfl rfl) h1
  clear hA0 hval0
  refine ((UnifyClasses_pure P0 a1).calls (w := W) rfl ?_).mono fun e W' ⟨he, bel⟩ => ?_
  · intro i c u hc hu
    match i with
    | 0 => simp at hc hu; subst hc; subst hu; exact hr0
    | 1 => simp at hc hu; subst hc; subst hu; exact .v _
    | i + 2 => simp at hc
  subst he
  exact ⟨_, rfl, _, _, _, [], _, [], hW', trodAll_mk1 (shut_bool Try.underlying4 _), (trodAll_cons_mk (Below.trod laidOut (by kernel_rfl) (of_decide_eq_true (by kernel_rfl)) k0 bel lt0) (trodAll_cons_mk (shut_int Try.underlying3 w1) trodAll_mk0)), rfl, bel.frame _, fun h => by cases h⟩
theorem over : Rows.unifyClassesRow.holds Try.pinned (OpenSpec.ofChange Rows.unifyClassesSpec) :=
  OpenClaim.holds_of_wide 3 Try.f3 rfl rfl rfl rfl rfl rfl rfl ⟨rfl, rfl, rfl, rfl, rfl⟩ rfl rfl rfl rfl rfl (by kernel_rfl) Try.func3 (by kernel_rfl)
    (of_decide_eq_true (by kernel_rfl)) (by unfold Func.isWrapper; first | (rw [if_pos (by decide +kernel)]; kernel_rfl) | (rw [if_neg (by decide +kernel)]; exact ⟨rfl, rfl⟩))
    (fun os started H enc _ => lifted os started H enc)
end Go.Proofs.Ytjjjckjebkmnjaa.unifyClasses
namespace Go.Proofs.Ytjjjckjebkmnjaa
theorem unifyClasses_proved : Rows.UnifyClassesSaid := unifyClasses.over
#print axioms unifyClasses_proved
end Go.Proofs.Ytjjjckjebkmnjaa
