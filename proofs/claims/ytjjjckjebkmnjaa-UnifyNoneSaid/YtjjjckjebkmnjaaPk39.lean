/- Texts of the abstract walk, of the contracts and of the plain laws, packed (part 39 of 41): UnA Um1. Conditions: none. -/
import Derived.Test.YtjjjckjebkmnjaaPk38
namespace Go.Proofs.Ytjjjckjebkmnjaa
open Go Go.RowKit
set_option maxRecDepth 100000
set_option maxHeartbeats 1000000
set_option linter.unusedSimpArgs false
set_option linter.unusedVariables false
attribute [local irreducible] aops dRun
theorem awake12_pure : APure Try.prog 10 [] (.v (.bool true)) := by
 refine APure.mkL (.nil) (.v _) ?_
 refine ACalls_intro Try.func10 (by kernel_rfl) rfl (by rw [Try.ntmps10]; simp) (fun hm => ?_)
 simp only [Try.ntmps10, Try.results10, List.length_cons, List.length_nil, Nat.reduceAdd, Nat.reduceSub, List.replicate_succ, List.replicate_zero, List.cons_append, List.nil_append]
 refine AWp_seqK fun K1 hK1 => ?_
 refine AWp_region ?_
 simp only [↓bO, bS, bA, bF, ↓reduceIte, Nat.reduceEqDiff, reduceCtorEq, tyX]
 refine hK1 _ ?_; try clear hK1 K1
 refine AWp_seqK fun K2 hK2 => ?_
 refine AWp_region ?_
 refine aops_chunk 1 fun C3 hC3 => ?_
 simp only [bL, ↓bO, bS, bA, bF, ↓reduceIte, Nat.reduceEqDiff, reduceCtorEq, aCallV, tyX]
 refine VNew_calls.mono ?_
 rintro r os' nx' ⟨⟨rfl, rfl⟩, rfl⟩
 try simp only [bS, bA, bF]
 refine hC3 _ ?_; clear hC3 C3
 simp only [bL]
 simp only [↓bO, bS, bA, bF, ↓reduceIte, Nat.reduceEqDiff, reduceCtorEq, tyX]
 refine hK2 _ ?_; try clear hK2 K2
 refine AWp_weak (Weak.rowCell 3 1 0 (id := 0) rfl rfl) ?_
 simp only [newOs, putO, Nat.reduceEqDiff, ↓reduceIte, List.set_cons_zero, List.set_cons_succ]
 refine AWp_weak (Weak.rowCell 3 1 1 (id := 0) rfl rfl) ?_
 simp only [putO, Nat.reduceEqDiff, ↓reduceIte, List.set_cons_zero, List.set_cons_succ]
 refine AWp_weak (Weak.rowCell 3 1 3 (id := 3) rfl rfl) ?_
 simp only [putO, Nat.reduceEqDiff, ↓reduceIte, List.set_cons_zero, List.set_cons_succ]
 refine AWp_weak (Weak.tokCell 128 4 (id := 2) (t := 118) [.osl 7 4 ([].map GNode.cells), .map 1] rfl ⟨.inr ⟨rfl, rfl⟩, .inl (.refl _), trivial⟩) ?_
 simp only [putO, Nat.reduceEqDiff, ↓reduceIte, List.set_cons_zero, List.set_cons_succ]
 refine AWp_seqK fun K4 hK4 => ?_
 refine AWp_region ?_
 refine aops_chunk 1 fun C5 hC5 => ?_
 simp only [bL, ↓bO, bS, bA, bF, ↓reduceIte, Nat.reduceEqDiff, reduceCtorEq, aBuild, zc30, pc30, aFill, splice, Nat.reduceAdd, Nat.reduceLeDiff, tyX]
 refine hC5 _ ?_; clear hC5 C5
 simp only [bL]
 refine aops_chunk 1 fun C6 hC6 => ?_
 simp only [bL, ↓bO, bS, bA, bF, ↓reduceIte, Nat.reduceEqDiff, reduceCtorEq, aBuild, zc30, pc30, aFill, splice, Nat.reduceAdd, Nat.reduceLeDiff, tyX]
 refine hC6 _ ?_; clear hC6 C6
 simp only [bL]
 refine aops_chunk 1 fun C7 hC7 => ?_
 simp only [bL, ↓bO, bS, bA, bF, ↓reduceIte, Nat.reduceEqDiff, reduceCtorEq, zc30, tyX]
 refine hC7 _ ?_; clear hC7 C7
 simp only [bL]
 refine aops_chunk 1 fun C8 hC8 => ?_
 simp only [bL, ↓bO, bS, bA, bF, ↓reduceIte, Nat.reduceEqDiff, reduceCtorEq, zc30, tyX]
 refine hC8 _ ?_; clear hC8 C8
 simp only [bL]
 refine aops_chunk 1 fun C9 hC9 => ?_
 simp only [bL, ↓bO, bS, bA, bF, ↓reduceIte, Nat.reduceEqDiff, reduceCtorEq, aStore, ti30, getO, putO, splice, Nat.reduceAdd, Nat.reduceLeDiff, tyX]
 refine hC9 _ ?_; clear hC9 C9
 simp only [bL]
 simp only [↓bO, bS, bA, bF, ↓reduceIte, Nat.reduceEqDiff, reduceCtorEq, aStore, ti30, getO, putO, splice, bL, Nat.reduceAdd, Nat.reduceLeDiff, tyX]
 refine hK4 _ ?_; try clear hK4 K4
 refine AWp_weak (Weak.recell (id := 8) (t := 30) [.v (.int .i64 2), .v (.int .i64 0), .sl 3 []] rfl ⟨.refl _, .refl _, Le.slNil 3, trivial⟩) ?_
 simp only [putO, Nat.reduceEqDiff, ↓reduceIte]
 refine AWp_weak (Weak.recell (id := 9) (t := 30) [.v (.int .i64 3), .v (.int .i64 0), .sl 3 []] rfl ⟨.refl _, .refl _, Le.slNil 3, trivial⟩) ?_
 simp only [putO, Nat.reduceEqDiff, ↓reduceIte]
 refine AWp_seqK fun K10 hK10 => ?_
 refine AWp_drawK 6 mixed (by kernel_rfl) fun K11 hK11 => ?_
 simp only [bL]
 refine dRun_chunk 1 fun C12 hC12 => ?_
 simp only [bL, ↓dRun, ↓dOp, ↓bO, bS, bA, bF, ↓reduceIte, Nat.reduceEqDiff, reduceCtorEq, tyX]
 refine hC12 _ ?_; clear hC12 C12
 simp only [bL]
 refine dRun_chunk 1 fun C13 hC13 => ?_
 simp only [bL, ↓dRun, ↓dOp, ↓bO, bS, bA, bF, ↓reduceIte, Nat.reduceEqDiff, reduceCtorEq, aCallV, tyX]
 refine ⟨_, TVar_pure 0, ?_⟩
 try simp only [bS, bA, bF]
 refine hC13 _ ?_; clear hC13 C13
 simp only [bL]
 refine dRun_chunk 1 fun C14 hC14 => ?_
 simp only [bL, ↓dRun, ↓dOp, ↓bO, bS, bA, bF, ↓reduceIte, Nat.reduceEqDiff, reduceCtorEq, aLoad, ti30, getO, pack, Nat.reduceAdd, Nat.reduceLeDiff, tyX]
 refine hC14 _ ?_; clear hC14 C14
 simp only [bL]
 refine dRun_chunk 1 fun C15 hC15 => ?_
 simp only [bL, ↓dRun, ↓dOp, ↓bO, bS, bA, bF, ↓reduceIte, Nat.reduceEqDiff, reduceCtorEq, aCallV, tyX]
 refine ⟨_, TVar_pure 1, ?_⟩
 try simp only [bS, bA, bF]
 refine hC15 _ ?_; clear hC15 C15
 simp only [bL]
 refine dRun_chunk 1 fun C16 hC16 => ?_
 simp only [bL, ↓dRun, ↓dOp, ↓bO, bS, bA, bF, ↓reduceIte, Nat.reduceEqDiff, reduceCtorEq, ↓bs2_1, ↓bs2_2, ↓bs2_3, ↓bs2_4, ↓bs2_5, ↓bs2_6, ↓bs2_7, ↓bs2_8, ↓bs2_9, ↓bs2_10, ↓bs2_11, ↓bs2_12, aBuildSl, ei28, ia30, List.range_succ, List.range_zero, List.forall_mem_cons, List.not_mem_nil, false_imp_iff, implies_true, Nat.reduceAdd, Nat.reduceLeDiff, forall_eq, List.mem_singleton, tyX]
 refine hC16 _ ?_; clear hC16 C16
 simp only [bL]
 simp only [↓dRun, ↓dOp, bL, ↓bO, bS, bA, bF, ↓reduceIte, Nat.reduceEqDiff, reduceCtorEq, aCallV, tyX]
 refine ⟨_, Arrow_pure 2 [.mk 2 0 [], .mk 1 1 []] rfl (by decide), ?_⟩
 try simp only [bS, bA, bF]
 refine hK11 _ ?_; try clear hK11 K11
 simp only [bL]
 refine aops_chunk 1 fun C17 hC17 => ?_
 simp only [bL, ↓bO, bS, bA, bF, ↓reduceIte, Nat.reduceEqDiff, reduceCtorEq, aCallV, tyX]
 refine CCalls.at (Equate_c CS0 (nat2 (eqF []).2) (eqF []).1 (.mk 1 0 []) (arrowL [.mk 2 0 [], .mk 1 1 []]) (fun _ => Holds.none.2) (by decide) (by decide) (by decide)) (.cons (Ty.dataAgg _) (.cons (Ty.dataAgg _) .nil)) (fun _ => .v _) (i0 := 3) (i1 := 2) (i2 := 7) (i3 := 1) (i4 := 0) (i5 := 4) (i6 := 5) (i7 := 6) (by decide) (by simp) ⟨rfl, rfl, rfl, rfl, rfl, rfl, rfl, rfl, trivial⟩ (fun S1 r1 hE1 => ?_)
 try dsimp only at hE1
 simp only [cObsAt, List.zip_cons_cons, List.zip_nil_left, List.zip_nil_right, putsO, putO, Nat.reduceEqDiff, ↓reduceIte]
 obtain ⟨he1, hH1, hl1⟩ := aw_step1 hE1
 obtain rfl : r1 = 0 := he1
 dsimp only at hH1 hl1
 try simp only [bS, bA, bF]
 refine hC17 _ ?_; clear hC17 C17
 simp only [bL]
 simp only [↓bO, bS, bA, bF, ↓reduceIte, Nat.reduceEqDiff, reduceCtorEq, tyX]
 refine hK10 _ ?_; try clear hK10 K10
 refine AWp_seqK fun K18 hK18 => ?_
 refine AWp_drawK 6 mixed (by kernel_rfl) fun K19 hK19 => ?_
 simp only [bL]
 refine dRun_chunk 1 fun C20 hC20 => ?_
 simp only [bL, ↓dRun, ↓dOp, ↓bO, bS, bA, bF, ↓reduceIte, Nat.reduceEqDiff, reduceCtorEq, tyX]
 refine hC20 _ ?_; clear hC20 C20
 simp only [bL]
 refine dRun_chunk 1 fun C21 hC21 => ?_
 simp only [bL, ↓dRun, ↓dOp, ↓bO, bS, bA, bF, ↓reduceIte, Nat.reduceEqDiff, reduceCtorEq, aCallV, tyX]
 refine ⟨_, TVar_pure 0, ?_⟩
 try simp only [bS, bA, bF]
 refine hC21 _ ?_; clear hC21 C21
 simp only [bL]
 refine dRun_chunk 1 fun C22 hC22 => ?_
 simp only [bL, ↓dRun, ↓dOp, ↓bO, bS, bA, bF, ↓reduceIte, Nat.reduceEqDiff, reduceCtorEq, aCallV, tyX]
 refine ⟨_, TVar_pure 2, ?_⟩
 try simp only [bS, bA, bF]
 refine hC22 _ ?_; clear hC22 C22
 simp only [bL]
 refine dRun_chunk 1 fun C23 hC23 => ?_
 simp only [bL, ↓dRun, ↓dOp, ↓bO, bS, bA, bF, ↓reduceIte, Nat.reduceEqDiff, reduceCtorEq, aLoad, ti30, getO, pack, Nat.reduceAdd, Nat.reduceLeDiff, tyX]
 refine hC23 _ ?_; clear hC23 C23
 simp only [bL]
 refine dRun_chunk 1 fun C24 hC24 => ?_
 simp only [bL, ↓dRun, ↓dOp, ↓bO, bS, bA, bF, ↓reduceIte, Nat.reduceEqDiff, reduceCtorEq, ↓bs2_1, ↓bs2_2, ↓bs2_3, ↓bs2_4, ↓bs2_5, ↓bs2_6, ↓bs2_7, ↓bs2_8, ↓bs2_9, ↓bs2_10, ↓bs2_11, ↓bs2_12, aBuildSl, ei28, ia30, List.range_succ, List.range_zero, List.forall_mem_cons, List.not_mem_nil, false_imp_iff, implies_true, Nat.reduceAdd, Nat.reduceLeDiff, forall_eq, List.mem_singleton, tyX]
 refine hC24 _ ?_; clear hC24 C24
 simp only [bL]
 simp only [↓dRun, ↓dOp, bL, ↓bO, bS, bA, bF, ↓reduceIte, Nat.reduceEqDiff, reduceCtorEq, aCallV, tyX]
 refine ⟨_, Arrow_pure 2 [.mk 1 2 [], .mk 3 0 []] rfl (by decide), ?_⟩
 try simp only [bS, bA, bF]
 refine hK19 _ ?_; try clear hK19 K19
 simp only [bL]
 refine aops_chunk 1 fun C25 hC25 => ?_
 simp only [bL, ↓bO, bS, bA, bF, ↓reduceIte, Nat.reduceEqDiff, reduceCtorEq, aCallV, tyX]
 refine CCalls.at (Equate_c S1 (nat2 (eqF [aw1]).2) (eqF [aw1]).1 (.mk 1 0 []) (arrowL [.mk 1 2 [], .mk 3 0 []]) (fun _ => hH1.2) (by simp only [Ty.cnt, Ty.cntL, arrowL]; omega) (by decide) (by decide)) (.cons (Ty.dataAgg _) (.cons (Ty.dataAgg _) .nil)) (fun _ => .v _) (i0 := 3) (i1 := 2) (i2 := 7) (i3 := 1) (i4 := 0) (i5 := 4) (i6 := 5) (i7 := 6) (by decide) (by simp) ⟨rfl, rfl, rfl, rfl, rfl, rfl, rfl, rfl, trivial⟩ (fun S2 r2 hE2 => ?_)
 try dsimp only at hE2
 simp only [cObsAt, List.zip_cons_cons, List.zip_nil_left, List.zip_nil_right, putsO, putO, Nat.reduceEqDiff, ↓reduceIte]
 obtain ⟨he2, hH2⟩ := aw_step2 hH1 hE2
 obtain rfl : r2 = 0 := he2
 dsimp only at hH2
 have hG2 := hH2.aw.2
 try simp only [bS, bA, bF]
 refine hC25 _ ?_; clear hC25 C25
 simp only [bL]
 simp only [↓bO, bS, bA, bF, ↓reduceIte, Nat.reduceEqDiff, reduceCtorEq, tyX]
 refine hK18 _ ?_; try clear hK18 K18
 refine AWp_seqK fun K26 hK26 => ?_
 refine AWp_region ?_
 refine aops_chunk 1 fun C27 hC27 => ?_
 simp only [bL, ↓bO, bS, bA, bF, ↓reduceIte, Nat.reduceEqDiff, reduceCtorEq, tyX]
 refine hC27 _ ?_; clear hC27 C27
 simp only [bL]
 refine aops_chunk 1 fun C28 hC28 => ?_
 simp only [bL, ↓bO, bS, bA, bF, ↓reduceIte, Nat.reduceEqDiff, reduceCtorEq, aBin, pt25, tyX]
 refine hC28 _ ?_; clear hC28 C28
 simp only [bL]
 refine aops_chunk 1 fun C29 hC29 => ?_
 simp only [bL, ↓bO, bS, bA, bF, ↓reduceIte, Nat.reduceEqDiff, reduceCtorEq, tyX]
 refine hC29 _ ?_; clear hC29 C29
 simp only [bL]
 refine aops_case 25 rfl (fun hc25 => ?_) (fun hc25 => ?_)
 ·
  simp only [List.set_cons_zero, List.set_cons_succ]
  refine aops_chunk 1 fun C30 hC30 => ?_
  simp only [bL, ↓bO, bS, bA, bF, ↓reduceIte, Nat.reduceEqDiff, reduceCtorEq, undef, tyX]
  refine hC30 _ ?_; clear hC30 C30
  simp only [bL]
  refine aops_chunk 1 fun C31 hC31 => ?_
  simp only [bL, ↓bO, bS, bA, bF, ↓reduceIte, Nat.reduceEqDiff, reduceCtorEq, undef, aBin, tyX]
  refine hC31 _ ?_; clear hC31 C31
  simp only [bL]
  refine aops_chunk 1 fun C32 hC32 => ?_
  simp only [bL, ↓bO, bS, bA, bF, ↓reduceIte, Nat.reduceEqDiff, reduceCtorEq, aBool, tyX]
  refine hC32 _ ?_; clear hC32 C32
  simp only [bL]
  refine aops_chunk 1 fun C33 hC33 => ?_
  simp only [bL, ↓bO, bS, bA, bF, ↓reduceIte, Nat.reduceEqDiff, reduceCtorEq, tyX]
  refine hC33 _ ?_; clear hC33 C33
  simp only [bL]
  refine aops_case 29 rfl (fun hc29 => ?_) (fun hc29 => ?_)
  ·
   simp only [List.set_cons_zero, List.set_cons_succ]
   refine aops_chunk 1 fun C34 hC34 => ?_
   simp only [bL, ↓bO, bS, bA, bF, ↓reduceIte, Nat.reduceEqDiff, reduceCtorEq, undef, tyX]
   refine hC34 _ ?_; clear hC34 C34
   simp only [bL]
   refine aops_chunk 1 fun C35 hC35 => ?_
   simp only [bL, ↓bO, bS, bA, bF, ↓reduceIte, Nat.reduceEqDiff, reduceCtorEq, undef, aBin, tyX]
   refine hC35 _ ?_; clear hC35 C35
   simp only [bL]
   refine aops_chunk 1 fun C36 hC36 => ?_
   simp only [bL, ↓bO, bS, bA, bF, ↓reduceIte, Nat.reduceEqDiff, reduceCtorEq, aBool, tyX]
   refine hC36 _ ?_; clear hC36 C36
   simp only [bL]
   refine aops_chunk 1 fun C37 hC37 => ?_
   simp only [bL, ↓bO, bS, bA, bF, ↓reduceIte, Nat.reduceEqDiff, reduceCtorEq, tyX]
   refine hC37 _ ?_; clear hC37 C37
   simp only [bL]
   refine aops_case 33 rfl (fun hc33 => ?_) (fun hc33 => ?_)
   ·
    simp only [List.set_cons_zero, List.set_cons_succ]
    refine aops_chunk 1 fun C38 hC38 => ?_
    simp only [bL, ↓bO, bS, bA, bF, ↓reduceIte, Nat.reduceEqDiff, reduceCtorEq, undef, tyX]
    refine hC38 _ ?_; clear hC38 C38
    simp only [bL]
    refine aops_chunk 1 fun C39 hC39 => ?_
    simp only [bL, ↓bO, bS, bA, bF, ↓reduceIte, Nat.reduceEqDiff, reduceCtorEq, undef, aCallV, tyX]
    refine CCalls.at (CKind_c S2 hG2.w.c.f hG2.w.c.fl hG2.w.c.wr hG2.vin 2) (.cons (.v _) .nil) (fun _ => .v _) (i0 := 3) (i1 := 2) (i2 := 7) (i3 := 1) (i4 := 0) (i5 := 4) (i6 := 5) (i7 := 6) (by decide) (by simp) ⟨rfl, rfl, rfl, rfl, rfl, rfl, rfl, rfl, trivial⟩ (fun S3 k2 hK3 => ?_)
    try dsimp only at hK3
    simp only [cObsAt, List.zip_cons_cons, List.zip_nil_left, List.zip_nil_right, putsO, putO, Nat.reduceEqDiff, ↓reduceIte]
    obtain ⟨hk3, hH3⟩ := aw_kind (s := (S3, k2)) hH2 aw_v2 (by omega) aw_14.symm rfl (by decide) hK3
    obtain rfl : k2 = 2 := hk3
    dsimp only at hH3
    have hG3 := hH3.aw.2
    try simp only [bS, bA, bF]
    refine hC39 _ ?_; clear hC39 C39
    simp only [bL]
    refine aops_chunk 1 fun C40 hC40 => ?_
    simp only [bL, ↓bO, bS, bA, bF, ↓reduceIte, Nat.reduceEqDiff, reduceCtorEq, undef, aBin, tyX]
    refine hC40 _ ?_; clear hC40 C40
    simp only [bL]
    refine aops_chunk 1 fun C41 hC41 => ?_
    simp only [bL, ↓bO, bS, bA, bF, ↓reduceIte, Nat.reduceEqDiff, reduceCtorEq, aBool, tyX]
    refine hC41 _ ?_; clear hC41 C41
    simp only [bL]
    refine aops_chunk 1 fun C42 hC42 => ?_
    simp only [bL, ↓bO, bS, bA, bF, ↓reduceIte, Nat.reduceEqDiff, reduceCtorEq, tyX]
    refine hC42 _ ?_; clear hC42 C42
    simp only [bL]
    refine aops_case 38 rfl (fun hc38 => ?_) (fun hc38 => ?_)
    ·
     simp only [List.set_cons_zero, List.set_cons_succ]
     refine aops_chunk 1 fun C43 hC43 => ?_
     simp only [bL, ↓bO, bS, bA, bF, ↓reduceIte, Nat.reduceEqDiff, reduceCtorEq, undef, tyX]
     refine hC43 _ ?_; clear hC43 C43
     simp only [bL]
     refine aops_chunk 1 fun C44 hC44 => ?_
     simp only [bL, ↓bO, bS, bA, bF, ↓reduceIte, Nat.reduceEqDiff, reduceCtorEq, undef, aCallV, tyX]
     refine CCalls.at (CKind_c S3 hG3.w.c.f hG3.w.c.fl hG3.w.c.wr hG3.vin 1) (.cons (.v _) .nil) (fun _ => .v _) (i0 := 3) (i1 := 2) (i2 := 7) (i3 := 1) (i4 := 0) (i5 := 4) (i6 := 5) (i7 := 6) (by decide) (by simp) ⟨rfl, rfl, rfl, rfl, rfl, rfl, rfl, rfl, trivial⟩ (fun S4 k3 hK4 => ?_)
     try dsimp only at hK4
     simp only [cObsAt, List.zip_cons_cons, List.zip_nil_left, List.zip_nil_right, putsO, putO, Nat.reduceEqDiff, ↓reduceIte]
     obtain ⟨hk4, hH4⟩ := aw_kind (s := (S4, k3)) hH3 aw_v1 (by omega) aw_25 rfl (by decide) hK4
     obtain rfl : k3 = 3 := hk4
     dsimp only at hH4
     have hG4 := hH4.aw.2
     try simp only [bS, bA, bF]
     refine hC44 _ ?_; clear hC44 C44
     simp only [bL]
     refine aops_chunk 1 fun C45 hC45 => ?_
     simp only [bL, ↓bO, bS, bA, bF, ↓reduceIte, Nat.reduceEqDiff, reduceCtorEq, undef, aBin, tyX]
     refine hC45 _ ?_; clear hC45 C45
     simp only [bL]
     refine aops_chunk 1 fun C46 hC46 => ?_
     simp only [bL, ↓bO, bS, bA, bF, ↓reduceIte, Nat.reduceEqDiff, reduceCtorEq, aBool, tyX]
     refine hC46 _ ?_; clear hC46 C46
     simp only [bL]
     refine aops_chunk 1 fun C47 hC47 => ?_
     simp only [bL, ↓bO, bS, bA, bF, ↓reduceIte, Nat.reduceEqDiff, reduceCtorEq, tyX]
     refine hC47 _ ?_; clear hC47 C47
     simp only [bL]
     refine aops_case 43 rfl (fun hc43 => ?_) (fun hc43 => ?_)
     ·
      simp only [List.set_cons_zero, List.set_cons_succ]
      refine aops_chunk 1 fun C48 hC48 => ?_
      simp only [bL, ↓bO, bS, bA, bF, ↓reduceIte, Nat.reduceEqDiff, reduceCtorEq, undef, tyX]
      refine hC48 _ ?_; clear hC48 C48
      simp only [bL]
      refine aops_chunk 1 fun C49 hC49 => ?_
      simp only [bL, ↓bO, bS, bA, bF, ↓reduceIte, Nat.reduceEqDiff, reduceCtorEq, undef, aCallV, tyX]
      refine CCalls.at (CSame_c S4 hG4.w.c.f hG4.vin 1 2) (.cons (.v _) (.cons (.v _) .nil)) (fun _ => .v _) (i0 := 3) (i1 := 2) (i2 := 7) (i3 := 1) (i4 := 0) (i5 := 4) (i6 := 5) (i7 := 6) (by decide) (by simp) ⟨rfl, rfl, rfl, rfl, rfl, rfl, rfl, rfl, trivial⟩ (fun S5 b5 hS5 => ?_)
      try dsimp only at hS5
      simp only [cObsAt, List.zip_cons_cons, List.zip_nil_left, List.zip_nil_right, putsO, putO, Nat.reduceEqDiff, ↓reduceIte]
      obtain rfl : b5 = false := aw_same (s := (S5, b5)) hH4 hS5
      try simp only [bS, bA, bF]
      refine hC49 _ ?_; clear hC49 C49
      simp only [bL]
      refine aops_chunk 1 fun C50 hC50 => ?_
      simp only [bL, ↓bO, bS, bA, bF, ↓reduceIte, Nat.reduceEqDiff, reduceCtorEq, undef, aUn, tyX]
      refine hC50 _ ?_; clear hC50 C50
      simp only [bL]
      refine aops_chunk 1 fun C51 hC51 => ?_
      simp only [bL, ↓bO, bS, bA, bF, ↓reduceIte, Nat.reduceEqDiff, reduceCtorEq, aBool, tyX]
      refine hC51 _ ?_; clear hC51 C51
      simp only [bL]
      simp only [↓bO, bS, bA, bF, ↓reduceIte, Nat.reduceEqDiff, reduceCtorEq, tyX]
      refine hK26 _ ?_; try clear hK26 K26
      refine AWp_ret ?_
      try simp only [bF, retQ, aRes, tupOf, bS, bA]
      exact Le.refl _
     ·
      simp only [List.set_cons_zero, List.set_cons_succ]
      exact absurd hc43 (by decide)
    ·
     simp only [List.set_cons_zero, List.set_cons_succ]
     exact absurd hc38 (by decide)
   ·
    simp only [List.set_cons_zero, List.set_cons_succ]
    exact absurd hc33 (by decide)
  ·
   simp only [List.set_cons_zero, List.set_cons_succ]
   exact absurd hc29 (by decide)
 ·
  simp only [List.set_cons_zero, List.set_cons_succ]
  exact absurd hc25 (by decide)
end Go.Proofs.Ytjjjckjebkmnjaa
namespace Go.Proofs.Ytjjjckjebkmnjaa
open Go Go.RowKit
set_option maxRecDepth 100000
set_option maxHeartbeats 1000000
set_option linter.unusedSimpArgs false
set_option linter.unusedVariables false
attribute [local irreducible] aops dRun
def EqT.ok (e : EqT) : Bool := e.l.right && e.r.right
theorem EqT.one (l : List EqT) : ((l.map EqT.cells).all fun y => y.all AV.one) = true := by
  induction l with
  | nil => rfl
  | cons e l ih => rw [List.map_cons, List.all_cons, ih]; rfl
end Go.Proofs.Ytjjjckjebkmnjaa
