/- Texts of the abstract walk, of the contracts and of the plain laws, packed (part 41 of 41): Unz Unone. Conditions: none. -/
import Derived.Test.YtjjjckjebkmnjaaPk40
import Derived.Test.YtjjjckjebkmnjaaRows
import Derived.OpenShut
import Derived.ChangeOld
import Derived.Below
namespace Go.Proofs.Ytjjjckjebkmnjaa
open Go Go.RowKit
set_option maxRecDepth 100000
set_option maxHeartbeats 1000000
set_option linter.unusedSimpArgs false
set_option linter.unusedVariables false
attribute [local irreducible] aops dRun
theorem ErrNil : APure Try.prog 14 [.v (.pointer none)] (.v (.int .i64 10)) := by
 refine APure.mkL (.cons (.v _) .nil) (.v _) ?_
 refine ACalls_intro Try.func14 (by kernel_rfl) rfl (by rw [Try.ntmps14]; simp) (fun hm => ?_)
 simp only [Try.ntmps14, Try.results14, List.length_cons, List.length_nil, Nat.reduceAdd, Nat.reduceSub, List.replicate_succ, List.replicate_zero, List.cons_append, List.nil_append]
 refine AWp_seqK fun K1 hK1 => ?_
 refine AWp_region ?_
 simp only [↓bO, bS, bA, bF, ↓reduceIte, Nat.reduceEqDiff, reduceCtorEq, tyX]
 refine hK1 _ ?_; try clear hK1 K1
 refine AWp_seqK fun K2 hK2 => ?_
 refine AWp_block ?_
 refine AWp_seqK fun K3 hK3 => ?_
 refine AWp_region ?_
 refine aops_chunk 1 fun C4 hC4 => ?_
 simp only [bL, ↓bO, bS, bA, bF, ↓reduceIte, Nat.reduceEqDiff, reduceCtorEq, tyX]
 refine hC4 _ ?_; clear hC4 C4
 simp only [bL]
 refine aops_chunk 1 fun C5 hC5 => ?_
 simp only [bL, ↓bO, bS, bA, bF, ↓reduceIte, Nat.reduceEqDiff, reduceCtorEq, aBin, pt25, tyX]
 refine hC5 _ ?_; clear hC5 C5
 simp only [bL]
 simp only [↓bO, bS, bA, bF, ↓reduceIte, Nat.reduceEqDiff, reduceCtorEq, tyX]
 refine hK3 _ ?_; try clear hK3 K3
 refine AWp_cond rfl (fun hb3 => ?_) (fun hb3 => ?_)
 ·
  refine AWp_seqK fun K6 hK6 => ?_
  refine AWp_region ?_
  simp only [↓bO, bS, bA, bF, ↓reduceIte, Nat.reduceEqDiff, reduceCtorEq, tyX]
  refine hK6 _ ?_; try clear hK6 K6
  refine AWp_ret ?_
  try simp only [bF, retQ, aRes, tupOf, bS, bA]
  exact Le.refl _
 ·
  exact absurd hb3 (by simp)
theorem EqNil (T U : Ty) : APure Try.prog 13 [.v (.pointer none), .agg T.cells, .agg U.cells] (.v (.int .i64 10)) := by
 refine APure.mkL (.cons (.v _) (.cons T.dataAgg (.cons U.dataAgg .nil))) (.v _) ?_
 refine ACalls_intro Try.func13 (by kernel_rfl) rfl (by rw [Try.ntmps13]; simp) (fun hm => ?_)
 simp only [Try.ntmps13, Try.results13, List.length_cons, List.length_nil, Nat.reduceAdd, Nat.reduceSub, List.replicate_succ, List.replicate_zero, List.cons_append, List.nil_append]
 refine AWp_seqK fun K1 hK1 => ?_
 refine AWp_region ?_
 refine aops_chunk 1 fun C2 hC2 => ?_
 simp only [bL, ↓bO, bS, bA, bF, ↓reduceIte, Nat.reduceEqDiff, reduceCtorEq, tyX]
 refine hC2 _ ?_; clear hC2 C2
 simp only [bL]
 refine aops_chunk 1 fun C3 hC3 => ?_
 simp only [bL, ↓bO, bS, bA, bF, ↓reduceIte, Nat.reduceEqDiff, reduceCtorEq, tyX]
 refine hC3 _ ?_; clear hC3 C3
 simp only [bL]
 simp only [↓bO, bS, bA, bF, ↓reduceIte, Nat.reduceEqDiff, reduceCtorEq, tyX]
 refine hK1 _ ?_; try clear hK1 K1
 refine AWp_scope ?_
 refine AWp_seqK fun K4 hK4 => ?_
 refine AWp_block ?_
 refine AWp_seqK fun K5 hK5 => ?_
 refine AWp_region ?_
 refine aops_chunk 1 fun C6 hC6 => ?_
 simp only [bL, ↓bO, bS, bA, bF, ↓reduceIte, Nat.reduceEqDiff, reduceCtorEq, tyX]
 refine hC6 _ ?_; clear hC6 C6
 simp only [bL]
 refine aops_chunk 1 fun C7 hC7 => ?_
 simp only [bL, ↓bO, bS, bA, bF, ↓reduceIte, Nat.reduceEqDiff, reduceCtorEq, aBin, pt25, tyX]
 refine hC7 _ ?_; clear hC7 C7
 simp only [bL]
 simp only [↓bO, bS, bA, bF, ↓reduceIte, Nat.reduceEqDiff, reduceCtorEq, tyX]
 refine hK5 _ ?_; try clear hK5 K5
 refine AWp_cond rfl (fun hb11 => ?_) (fun hb11 => ?_)
 ·
  refine AWp_seqK fun K8 hK8 => ?_
  refine AWp_region ?_
  simp only [↓bO, bS, bA, bF, ↓reduceIte, Nat.reduceEqDiff, reduceCtorEq, tyX]
  refine hK8 _ ?_; try clear hK8 K8
  refine AWp_ret ?_
  try simp only [bF, retQ, aRes, tupOf, bS, bA]
  exact Le.refl _
 ·
  exact absurd hb11 (by simp)
theorem nodeNil (n : Int) : APure Try.prog 59 [.v (.pointer none), .v (.int .i64 n)] (.tup [.v (.int .i64 0), .v (.bool false)]) := by
 refine APure.mkL (.cons (.v _) (.cons (.v _) .nil)) (.tup (.cons (.v _) (.cons (.v _) .nil))) ?_
 refine ACalls_intro Try.func59 (by kernel_rfl) rfl (by rw [Try.ntmps59]; simp) (fun hm => ?_)
 simp only [Try.ntmps59, Try.results59, List.length_cons, List.length_nil, Nat.reduceAdd, Nat.reduceSub, List.replicate_succ, List.replicate_zero, List.cons_append, List.nil_append]
 refine AWp_seqK fun K1 hK1 => ?_
 refine AWp_region ?_
 refine aops_chunk 1 fun C2 hC2 => ?_
 simp only [bL, ↓bO, bS, bA, bF, ↓reduceIte, Nat.reduceEqDiff, reduceCtorEq, tyX]
 refine hC2 _ ?_; clear hC2 C2
 simp only [bL]
 simp only [↓bO, bS, bA, bF, ↓reduceIte, Nat.reduceEqDiff, reduceCtorEq, tyX]
 refine hK1 _ ?_; try clear hK1 K1
 refine AWp_seqK fun K3 hK3 => ?_
 refine AWp_seqK fun K4 hK4 => ?_
 refine AWp_region ?_
 refine aops_chunk 1 fun C5 hC5 => ?_
 simp only [bL, ↓bO, bS, bA, bF, ↓reduceIte, Nat.reduceEqDiff, reduceCtorEq, tyX]
 refine hC5 _ ?_; clear hC5 C5
 simp only [bL]
 refine aops_chunk 1 fun C6 hC6 => ?_
 simp only [bL, ↓bO, bS, bA, bF, ↓reduceIte, Nat.reduceEqDiff, reduceCtorEq, aCallV, tyX]
 refine APure.call (ErrNil) ?_
 try simp only [bS, bA, bF]
 refine hC6 _ ?_; clear hC6 C6
 simp only [bL]
 simp only [↓bO, bS, bA, bF, ↓reduceIte, Nat.reduceEqDiff, reduceCtorEq, aBin, tyX]
 refine hK4 _ ?_; try clear hK4 K4
 refine AWp_cond rfl (fun hb8 => ?_) (fun hb8 => ?_)
 ·
  refine AWp_seqK fun K7 hK7 => ?_
  refine AWp_region ?_
  refine aops_chunk 1 fun C8 hC8 => ?_
  simp only [bL, ↓bO, bS, bA, bF, ↓reduceIte, Nat.reduceEqDiff, reduceCtorEq, tyX]
  refine hC8 _ ?_; clear hC8 C8
  simp only [bL]
  simp only [↓bO, bS, bA, bF, ↓reduceIte, Nat.reduceEqDiff, reduceCtorEq, tyX]
  refine hK7 _ ?_; try clear hK7 K7
  refine AWp_ret ?_
  try simp only [bF, retQ, aRes, tupOf, bS, bA]
  exact Le.refl _
 ·
  exact absurd hb8 (by simp)
theorem VarsNil2 : APure Try.prog 22 [.v (.pointer none)] (.sl 1 (([] : List Int).map intC)) := by
 refine APure.mkL (.cons (.v _) .nil) (dataInts _) ?_
 refine ACalls_intro Try.func22 (by kernel_rfl) rfl (by rw [Try.ntmps22]; simp) (fun hm => ?_)
 simp only [Try.ntmps22, Try.results22, List.length_cons, List.length_nil, Nat.reduceAdd, Nat.reduceSub, List.replicate_succ, List.replicate_zero, List.cons_append, List.nil_append]
 refine AWp_seqK fun K1 hK1 => ?_
 refine AWp_region ?_
 simp only [↓bO, bS, bA, bF, ↓reduceIte, Nat.reduceEqDiff, reduceCtorEq, tyX]
 refine hK1 _ ?_; try clear hK1 K1
 refine AWp_seqK fun K2 hK2 => ?_
 refine AWp_seqK fun K3 hK3 => ?_
 refine AWp_region ?_
 refine aops_chunk 1 fun C4 hC4 => ?_
 simp only [bL, ↓bO, bS, bA, bF, ↓reduceIte, Nat.reduceEqDiff, reduceCtorEq, tyX]
 refine hC4 _ ?_; clear hC4 C4
 simp only [bL]
 refine aops_chunk 1 fun C5 hC5 => ?_
 simp only [bL, ↓bO, bS, bA, bF, ↓reduceIte, Nat.reduceEqDiff, reduceCtorEq, aCallV, tyX]
 refine APure.call (ErrNil) ?_
 try simp only [bS, bA, bF]
 refine hC5 _ ?_; clear hC5 C5
 simp only [bL]
 simp only [↓bO, bS, bA, bF, ↓reduceIte, Nat.reduceEqDiff, reduceCtorEq, aBin, tyX]
 refine hK3 _ ?_; try clear hK3 K3
 refine AWp_cond rfl (fun hb5 => ?_) (fun hb5 => ?_)
 ·
  refine AWp_seqK fun K6 hK6 => ?_
  refine AWp_region ?_
  simp only [↓bO, bS, bA, bF, ↓reduceIte, Nat.reduceEqDiff, reduceCtorEq, tyX]
  refine hK6 _ ?_; try clear hK6 K6
  refine AWp_ret ?_
  try simp only [bF, retQ, aRes, tupOf, bS, bA]
  exact Le.slNil 1
 ·
  exact absurd hb5 (by simp)
theorem SameNil (a b : Int) : APure Try.prog 24 [.v (.pointer none), .v (.int .i64 a), .v (.int .i64 b)] (.v (.bool false)) := by
 refine APure.mkL (.cons (.v _) (.cons (.v _) (.cons (.v _) .nil))) (.v _) ?_
 refine ACalls_intro Try.func24 (by kernel_rfl) rfl (by rw [Try.ntmps24]; simp) (fun hm => ?_)
 simp only [Try.ntmps24, Try.results24, List.length_cons, List.length_nil, Nat.reduceAdd, Nat.reduceSub, List.replicate_succ, List.replicate_zero, List.cons_append, List.nil_append]
 refine AWp_seqK fun K1 hK1 => ?_
 refine AWp_region ?_
 simp only [↓bO, bS, bA, bF, ↓reduceIte, Nat.reduceEqDiff, reduceCtorEq, tyX]
 refine hK1 _ ?_; try clear hK1 K1
 refine AWp_seqK fun K2 hK2 => ?_
 refine AWp_region ?_
 refine aops_chunk 1 fun C3 hC3 => ?_
 simp only [bL, ↓bO, bS, bA, bF, ↓reduceIte, Nat.reduceEqDiff, reduceCtorEq, tyX]
 refine hC3 _ ?_; clear hC3 C3
 simp only [bL]
 refine aops_chunk 1 fun C4 hC4 => ?_
 simp only [bL, ↓bO, bS, bA, bF, ↓reduceIte, Nat.reduceEqDiff, reduceCtorEq, tyX]
 refine hC4 _ ?_; clear hC4 C4
 simp only [bL]
 refine aops_chunk 1 fun C5 hC5 => ?_
 simp only [bL, ↓bO, bS, bA, bF, ↓reduceIte, Nat.reduceEqDiff, reduceCtorEq, aCallV, tyX]
 refine APure.call (nodeNil a) ?_
 try simp only [bS, bA, bF]
 refine hC5 _ ?_; clear hC5 C5
 simp only [bL]
 refine aops_chunk 1 fun C6 hC6 => ?_
 simp only [bL, ↓bO, bS, bA, bF, ↓reduceIte, Nat.reduceEqDiff, reduceCtorEq, tyX]
 refine hC6 _ ?_; clear hC6 C6
 simp only [bL]
 refine aops_chunk 1 fun C7 hC7 => ?_
 simp only [bL, ↓bO, bS, bA, bF, ↓reduceIte, Nat.reduceEqDiff, reduceCtorEq, aExtract, Nat.reduceAdd, Nat.reduceLT, Nat.zero_lt_succ, tyX]
 refine hC7 _ ?_; clear hC7 C7
 simp only [bL]
 refine aops_chunk 1 fun C8 hC8 => ?_
 simp only [bL, ↓bO, bS, bA, bF, ↓reduceIte, Nat.reduceEqDiff, reduceCtorEq, aExtract, Nat.reduceAdd, Nat.reduceLT, Nat.zero_lt_succ, tyX]
 refine hC8 _ ?_; clear hC8 C8
 simp only [bL]
 refine aops_chunk 1 fun C9 hC9 => ?_
 simp only [bL, ↓bO, bS, bA, bF, ↓reduceIte, Nat.reduceEqDiff, reduceCtorEq, tyX]
 refine hC9 _ ?_; clear hC9 C9
 simp only [bL]
 simp only [↓bO, bS, bA, bF, ↓reduceIte, Nat.reduceEqDiff, reduceCtorEq, tyX]
 refine hK2 _ ?_; try clear hK2 K2
 refine AWp_seqK fun K10 hK10 => ?_
 refine AWp_region ?_
 refine aops_chunk 1 fun C11 hC11 => ?_
 simp only [bL, ↓bO, bS, bA, bF, ↓reduceIte, Nat.reduceEqDiff, reduceCtorEq, tyX]
 refine hC11 _ ?_; clear hC11 C11
 simp only [bL]
 refine aops_chunk 1 fun C12 hC12 => ?_
 simp only [bL, ↓bO, bS, bA, bF, ↓reduceIte, Nat.reduceEqDiff, reduceCtorEq, tyX]
 refine hC12 _ ?_; clear hC12 C12
 simp only [bL]
 refine aops_chunk 1 fun C13 hC13 => ?_
 simp only [bL, ↓bO, bS, bA, bF, ↓reduceIte, Nat.reduceEqDiff, reduceCtorEq, aCallV, tyX]
 refine APure.call (nodeNil b) ?_
 try simp only [bS, bA, bF]
 refine hC13 _ ?_; clear hC13 C13
 simp only [bL]
 refine aops_chunk 1 fun C14 hC14 => ?_
 simp only [bL, ↓bO, bS, bA, bF, ↓reduceIte, Nat.reduceEqDiff, reduceCtorEq, tyX]
 refine hC14 _ ?_; clear hC14 C14
 simp only [bL]
 refine aops_chunk 1 fun C15 hC15 => ?_
 simp only [bL, ↓bO, bS, bA, bF, ↓reduceIte, Nat.reduceEqDiff, reduceCtorEq, aExtract, Nat.reduceAdd, Nat.reduceLT, Nat.zero_lt_succ, tyX]
 refine hC15 _ ?_; clear hC15 C15
 simp only [bL]
 refine aops_chunk 1 fun C16 hC16 => ?_
 simp only [bL, ↓bO, bS, bA, bF, ↓reduceIte, Nat.reduceEqDiff, reduceCtorEq, aExtract, Nat.reduceAdd, Nat.reduceLT, Nat.zero_lt_succ, tyX]
 refine hC16 _ ?_; clear hC16 C16
 simp only [bL]
 refine aops_chunk 1 fun C17 hC17 => ?_
 simp only [bL, ↓bO, bS, bA, bF, ↓reduceIte, Nat.reduceEqDiff, reduceCtorEq, tyX]
 refine hC17 _ ?_; clear hC17 C17
 simp only [bL]
 simp only [↓bO, bS, bA, bF, ↓reduceIte, Nat.reduceEqDiff, reduceCtorEq, tyX]
 refine hK10 _ ?_; try clear hK10 K10
 refine AWp_seqK fun K18 hK18 => ?_
 refine AWp_region ?_
 refine aops_chunk 1 fun C19 hC19 => ?_
 simp only [bL, ↓bO, bS, bA, bF, ↓reduceIte, Nat.reduceEqDiff, reduceCtorEq, tyX]
 refine hC19 _ ?_; clear hC19 C19
 simp only [bL]
 refine aops_chunk 1 fun C20 hC20 => ?_
 simp only [bL, ↓bO, bS, bA, bF, ↓reduceIte, Nat.reduceEqDiff, reduceCtorEq, tyX]
 refine hC20 _ ?_; clear hC20 C20
 simp only [bL]
 refine aops_case 24 rfl (fun hc24 => ?_) (fun hc24 => ?_)
 ·
  simp only [List.set_cons_zero, List.set_cons_succ]
  exact absurd hc24 (by simp)
 ·
  simp only [List.set_cons_zero, List.set_cons_succ]
  refine aops_chunk 1 fun C21 hC21 => ?_
  simp only [bL, ↓bO, bS, bA, bF, ↓reduceIte, Nat.reduceEqDiff, reduceCtorEq, undef, tyX]
  refine hC21 _ ?_; clear hC21 C21
  simp only [bL]
  refine aops_chunk 1 fun C22 hC22 => ?_
  simp only [bL, ↓bO, bS, bA, bF, ↓reduceIte, Nat.reduceEqDiff, reduceCtorEq, aBool, tyX]
  refine hC22 _ ?_; clear hC22 C22
  simp only [bL]
  refine aops_chunk 1 fun C23 hC23 => ?_
  simp only [bL, ↓bO, bS, bA, bF, ↓reduceIte, Nat.reduceEqDiff, reduceCtorEq, tyX]
  refine hC23 _ ?_; clear hC23 C23
  simp only [bL]
  refine aops_chunk 1 fun C24 hC24 => ?_
  simp only [bL, ↓bO, bS, bA, bF, ↓reduceIte, Nat.reduceEqDiff, reduceCtorEq, undef, tyX]
  refine hC24 _ ?_; clear hC24 C24
  simp only [bL]
  refine aops_chunk 1 fun C25 hC25 => ?_
  simp only [bL, ↓bO, bS, bA, bF, ↓reduceIte, Nat.reduceEqDiff, reduceCtorEq, undef, tyX]
  refine hC25 _ ?_; clear hC25 C25
  simp only [bL]
  refine aops_chunk 1 fun C26 hC26 => ?_
  simp only [bL, ↓bO, bS, bA, bF, ↓reduceIte, Nat.reduceEqDiff, reduceCtorEq, undef, aField, fo89_2, Nat.reduceAdd, tyX]
  refine hC26 _ ?_; clear hC26 C26
  simp only [bL]
  refine aops_chunk 1 fun C27 hC27 => ?_
  simp only [bL, ↓bO, bS, bA, bF, ↓reduceIte, Nat.reduceEqDiff, reduceCtorEq, undef, aLoad, ti81, getO, pack, Nat.reduceAdd, Nat.reduceLeDiff, tyX]
  refine hC27 _ ?_; clear hC27 C27
  simp only [bL]
  refine aops_chunk 1 fun C28 hC28 => ?_
  simp only [bL, ↓bO, bS, bA, bF, ↓reduceIte, Nat.reduceEqDiff, reduceCtorEq, undef, tyX]
  refine hC28 _ ?_; clear hC28 C28
  simp only [bL]
  refine aops_chunk 1 fun C29 hC29 => ?_
  simp only [bL, ↓bO, bS, bA, bF, ↓reduceIte, Nat.reduceEqDiff, reduceCtorEq, undef, tyX]
  refine hC29 _ ?_; clear hC29 C29
  simp only [bL]
  refine aops_chunk 1 fun C30 hC30 => ?_
  simp only [bL, ↓bO, bS, bA, bF, ↓reduceIte, Nat.reduceEqDiff, reduceCtorEq, undef, aCallV, tyX]
  refine hC30 _ ?_; clear hC30 C30
  simp only [bL]
  refine aops_chunk 1 fun C31 hC31 => ?_
  simp only [bL, ↓bO, bS, bA, bF, ↓reduceIte, Nat.reduceEqDiff, reduceCtorEq, aBool, tyX]
  refine hC31 _ ?_; clear hC31 C31
  simp only [bL]
  simp only [↓bO, bS, bA, bF, ↓reduceIte, Nat.reduceEqDiff, reduceCtorEq, tyX]
  refine hK18 _ ?_; try clear hK18 K18
  refine AWp_ret ?_
  try simp only [bF, retQ, aRes, tupOf, bS, bA]
  exact Le.refl _
theorem KindNil2 (a : Int) : APure Try.prog 23 [.v (.pointer none), .v (.int .i64 a)] (.v (.int .i64 0)) := by
 refine APure.mkL (.cons (.v _) (.cons (.v _) .nil)) (.v _) ?_
 refine ACalls_intro Try.func23 (by kernel_rfl) rfl (by rw [Try.ntmps23]; simp) (fun hm => ?_)
 simp only [Try.ntmps23, Try.results23, List.length_cons, List.length_nil, Nat.reduceAdd, Nat.reduceSub, List.replicate_succ, List.replicate_zero, List.cons_append, List.nil_append]
 refine AWp_seqK fun K1 hK1 => ?_
 refine AWp_region ?_
 simp only [↓bO, bS, bA, bF, ↓reduceIte, Nat.reduceEqDiff, reduceCtorEq, tyX]
 refine hK1 _ ?_; try clear hK1 K1
 refine AWp_seqK fun K2 hK2 => ?_
 refine AWp_region ?_
 refine aops_chunk 1 fun C3 hC3 => ?_
 simp only [bL, ↓bO, bS, bA, bF, ↓reduceIte, Nat.reduceEqDiff, reduceCtorEq, tyX]
 refine hC3 _ ?_; clear hC3 C3
 simp only [bL]
 refine aops_chunk 1 fun C4 hC4 => ?_
 simp only [bL, ↓bO, bS, bA, bF, ↓reduceIte, Nat.reduceEqDiff, reduceCtorEq, tyX]
 refine hC4 _ ?_; clear hC4 C4
 simp only [bL]
 refine aops_chunk 1 fun C5 hC5 => ?_
 simp only [bL, ↓bO, bS, bA, bF, ↓reduceIte, Nat.reduceEqDiff, reduceCtorEq, aCallV, tyX]
 refine APure.call (nodeNil a) ?_
 try simp only [bS, bA, bF]
 refine hC5 _ ?_; clear hC5 C5
 simp only [bL]
 refine aops_chunk 1 fun C6 hC6 => ?_
 simp only [bL, ↓bO, bS, bA, bF, ↓reduceIte, Nat.reduceEqDiff, reduceCtorEq, tyX]
 refine hC6 _ ?_; clear hC6 C6
 simp only [bL]
 refine aops_chunk 1 fun C7 hC7 => ?_
 simp only [bL, ↓bO, bS, bA, bF, ↓reduceIte, Nat.reduceEqDiff, reduceCtorEq, aExtract, Nat.reduceAdd, Nat.reduceLT, Nat.zero_lt_succ, tyX]
 refine hC7 _ ?_; clear hC7 C7
 simp only [bL]
 refine aops_chunk 1 fun C8 hC8 => ?_
 simp only [bL, ↓bO, bS, bA, bF, ↓reduceIte, Nat.reduceEqDiff, reduceCtorEq, aExtract, Nat.reduceAdd, Nat.reduceLT, Nat.zero_lt_succ, tyX]
 refine hC8 _ ?_; clear hC8 C8
 simp only [bL]
 refine aops_chunk 1 fun C9 hC9 => ?_
 simp only [bL, ↓bO, bS, bA, bF, ↓reduceIte, Nat.reduceEqDiff, reduceCtorEq, tyX]
 refine hC9 _ ?_; clear hC9 C9
 simp only [bL]
 simp only [↓bO, bS, bA, bF, ↓reduceIte, Nat.reduceEqDiff, reduceCtorEq, tyX]
 refine hK2 _ ?_; try clear hK2 K2
 refine AWp_seqK fun K10 hK10 => ?_
 refine AWp_seqK fun K11 hK11 => ?_
 refine AWp_region ?_
 refine aops_chunk 1 fun C12 hC12 => ?_
 simp only [bL, ↓bO, bS, bA, bF, ↓reduceIte, Nat.reduceEqDiff, reduceCtorEq, tyX]
 refine hC12 _ ?_; clear hC12 C12
 simp only [bL]
 simp only [↓bO, bS, bA, bF, ↓reduceIte, Nat.reduceEqDiff, reduceCtorEq, aUn, tyX]
 refine hK11 _ ?_; try clear hK11 K11
 refine AWp_cond rfl (fun hb14 => ?_) (fun hb14 => ?_)
 ·
  refine AWp_seqK fun K13 hK13 => ?_
  refine AWp_region ?_
  simp only [↓bO, bS, bA, bF, ↓reduceIte, Nat.reduceEqDiff, reduceCtorEq, tyX]
  refine hK13 _ ?_; try clear hK13 K13
  refine AWp_ret ?_
  try simp only [bF, retQ, aRes, tupOf, bS, bA]
  exact Le.refl _
 ·
  exact absurd hb14 (by simp)
theorem PartsNil2 (a : Int) : APure Try.prog 21 [.v (.pointer none), .v (.int .i64 a)] (.tup [.sl 2 [], .v (.bool false)]) := by
 refine APure.mkL (.cons (.v _) (.cons (.v _) .nil)) (.tup (.cons (.sl (by intro x hx; cases hx)) (.cons (.v _) .nil))) ?_
 refine ACalls_intro Try.func21 (by kernel_rfl) rfl (by rw [Try.ntmps21]; simp) (fun hm => ?_)
 simp only [Try.ntmps21, Try.results21, List.length_cons, List.length_nil, Nat.reduceAdd, Nat.reduceSub, List.replicate_succ, List.replicate_zero, List.cons_append, List.nil_append]
 refine AWp_seqK fun K1 hK1 => ?_
 refine AWp_region ?_
 refine aops_chunk 1 fun C2 hC2 => ?_
 simp only [bL, ↓bO, bS, bA, bF, ↓reduceIte, Nat.reduceEqDiff, reduceCtorEq, tyX]
 refine hC2 _ ?_; clear hC2 C2
 simp only [bL]
 simp only [↓bO, bS, bA, bF, ↓reduceIte, Nat.reduceEqDiff, reduceCtorEq, tyX]
 refine hK1 _ ?_; try clear hK1 K1
 refine AWp_seqK fun K3 hK3 => ?_
 refine AWp_region ?_
 refine aops_chunk 1 fun C4 hC4 => ?_
 simp only [bL, ↓bO, bS, bA, bF, ↓reduceIte, Nat.reduceEqDiff, reduceCtorEq, tyX]
 refine hC4 _ ?_; clear hC4 C4
 simp only [bL]
 refine aops_chunk 1 fun C5 hC5 => ?_
 simp only [bL, ↓bO, bS, bA, bF, ↓reduceIte, Nat.reduceEqDiff, reduceCtorEq, tyX]
 refine hC5 _ ?_; clear hC5 C5
 simp only [bL]
 refine aops_chunk 1 fun C6 hC6 => ?_
 simp only [bL, ↓bO, bS, bA, bF, ↓reduceIte, Nat.reduceEqDiff, reduceCtorEq, aCallV, tyX]
 refine APure.call (nodeNil a) ?_
 try simp only [bS, bA, bF]
 refine hC6 _ ?_; clear hC6 C6
 simp only [bL]
 refine aops_chunk 1 fun C7 hC7 => ?_
 simp only [bL, ↓bO, bS, bA, bF, ↓reduceIte, Nat.reduceEqDiff, reduceCtorEq, tyX]
 refine hC7 _ ?_; clear hC7 C7
 simp only [bL]
 refine aops_chunk 1 fun C8 hC8 => ?_
 simp only [bL, ↓bO, bS, bA, bF, ↓reduceIte, Nat.reduceEqDiff, reduceCtorEq, aExtract, Nat.reduceAdd, Nat.reduceLT, Nat.zero_lt_succ, tyX]
 refine hC8 _ ?_; clear hC8 C8
 simp only [bL]
 refine aops_chunk 1 fun C9 hC9 => ?_
 simp only [bL, ↓bO, bS, bA, bF, ↓reduceIte, Nat.reduceEqDiff, reduceCtorEq, aExtract, Nat.reduceAdd, Nat.reduceLT, Nat.zero_lt_succ, tyX]
 refine hC9 _ ?_; clear hC9 C9
 simp only [bL]
 refine aops_chunk 1 fun C10 hC10 => ?_
 simp only [bL, ↓bO, bS, bA, bF, ↓reduceIte, Nat.reduceEqDiff, reduceCtorEq, tyX]
 refine hC10 _ ?_; clear hC10 C10
 simp only [bL]
 simp only [↓bO, bS, bA, bF, ↓reduceIte, Nat.reduceEqDiff, reduceCtorEq, tyX]
 refine hK3 _ ?_; try clear hK3 K3
 refine AWp_seqK fun K11 hK11 => ?_
 refine AWp_seqK fun K12 hK12 => ?_
 refine AWp_drawK 14 mixed (by kernel_rfl) fun K13 hK13 => ?_
 simp only [bL]
 refine dRun_chunk 1 fun C14 hC14 => ?_
 simp only [bL, ↓dRun, ↓dOp, ↓bO, bS, bA, bF, ↓reduceIte, Nat.reduceEqDiff, reduceCtorEq, tyX]
 refine hC14 _ ?_; clear hC14 C14
 simp only [bL]
 refine dRun_chunk 1 fun C15 hC15 => ?_
 simp only [bL, ↓dRun, ↓dOp, ↓bO, bS, bA, bF, ↓reduceIte, Nat.reduceEqDiff, reduceCtorEq, aUn, tyX]
 refine hC15 _ ?_; clear hC15 C15
 simp only [bL]
 refine dRun_chunk 1 fun C16 hC16 => ?_
 simp only [bL, ↓dRun, ↓dOp, ↓bO, bS, bA, bF, ↓reduceIte, Nat.reduceEqDiff, reduceCtorEq, tyX]
 refine hC16 _ ?_; clear hC16 C16
 simp only [bL]
 refine dRun_case 16 rfl (fun hc16 => ?_) (fun hc16 => ?_)
 ·
  simp only [List.set_cons_zero, List.set_cons_succ]
  refine dRun_chunk 1 fun C17 hC17 => ?_
  simp only [bL, ↓dRun, ↓dOp, ↓bO, bS, bA, bF, ↓reduceIte, Nat.reduceEqDiff, reduceCtorEq, undef, tyX]
  refine hC17 _ ?_; clear hC17 C17
  simp only [bL]
  refine dRun_chunk 1 fun C18 hC18 => ?_
  simp only [bL, ↓dRun, ↓dOp, ↓bO, bS, bA, bF, ↓reduceIte, Nat.reduceEqDiff, reduceCtorEq, undef, tyX]
  refine hC18 _ ?_; clear hC18 C18
  simp only [bL]
  refine dRun_chunk 1 fun C19 hC19 => ?_
  simp only [bL, ↓dRun, ↓dOp, ↓bO, bS, bA, bF, ↓reduceIte, Nat.reduceEqDiff, reduceCtorEq, undef, aField, fo89_3, Nat.reduceAdd, tyX]
  refine hC19 _ ?_; clear hC19 C19
  simp only [bL]
  refine dRun_chunk 1 fun C20 hC20 => ?_
  simp only [bL, ↓dRun, ↓dOp, ↓bO, bS, bA, bF, ↓reduceIte, Nat.reduceEqDiff, reduceCtorEq, undef, aLoad, ti41, getO, pack, Nat.reduceAdd, Nat.reduceLeDiff, tyX]
  refine hC20 _ ?_; clear hC20 C20
  simp only [bL]
  refine dRun_chunk 1 fun C21 hC21 => ?_
  simp only [bL, ↓dRun, ↓dOp, ↓bO, bS, bA, bF, ↓reduceIte, Nat.reduceEqDiff, reduceCtorEq, undef, tyX]
  refine hC21 _ ?_; clear hC21 C21
  simp only [bL]
  refine dRun_chunk 1 fun C22 hC22 => ?_
  simp only [bL, ↓dRun, ↓dOp, ↓bO, bS, bA, bF, ↓reduceIte, Nat.reduceEqDiff, reduceCtorEq, undef, tyX]
  refine hC22 _ ?_; clear hC22 C22
  simp only [bL]
  refine dRun_chunk 1 fun C23 hC23 => ?_
  simp only [bL, ↓dRun, ↓dOp, ↓bO, bS, bA, bF, ↓reduceIte, Nat.reduceEqDiff, reduceCtorEq, undef, aCallV, tyX]
  refine hC23 _ ?_; clear hC23 C23
  simp only [bL]
  refine dRun_chunk 1 fun C24 hC24 => ?_
  simp only [bL, ↓dRun, ↓dOp, ↓bO, bS, bA, bF, ↓reduceIte, Nat.reduceEqDiff, reduceCtorEq, undef, getO, aIndexA, es41, Int.natCast_nonneg, Int.ofNat_lt, Int.toNat_natCast, List.length_map, Int.le_refl, Int.toNat_zero, Int.toNat_one, Int.reduceLE, tyX]
  refine hC24 _ ?_; clear hC24 C24
  simp only [bL]
  refine dRun_chunk 1 fun C25 hC25 => ?_
  simp only [bL, ↓dRun, ↓dOp, ↓bO, bS, bA, bF, ↓reduceIte, Nat.reduceEqDiff, reduceCtorEq, undef, aLoad, ti3, getO, pack, Nat.reduceAdd, Nat.reduceLeDiff, tyX]
  refine hC25 _ ?_; clear hC25 C25
  simp only [bL]
  refine dRun_chunk 1 fun C26 hC26 => ?_
  simp only [bL, ↓dRun, ↓dOp, ↓bO, bS, bA, bF, ↓reduceIte, Nat.reduceEqDiff, reduceCtorEq, undef, aBin, tyX]
  refine hC26 _ ?_; clear hC26 C26
  simp only [bL]
  simp only [↓dRun, ↓dOp, bL, ↓bO, bS, bA, bF, ↓reduceIte, Nat.reduceEqDiff, reduceCtorEq, aBool, tyX]
  refine hK13 _ ?_; try clear hK13 K13
  simp only [bL, aops, bF]
  refine hK12 _ ?_; try clear hK12 K12
  refine AWp_cond (b := true) (by first | exact rfl | exact congrArg (fun b => AV.v (.bool b)) hb27) (fun _ => ?_) (fun h => (by cases h))
  refine AWp_seqK fun K27 hK27 => ?_
  refine AWp_region ?_
  refine aops_chunk 1 fun C28 hC28 => ?_
  simp only [bL, ↓bO, bS, bA, bF, ↓reduceIte, Nat.reduceEqDiff, reduceCtorEq, tyX]
  refine hC28 _ ?_; clear hC28 C28
  simp only [bL]
  simp only [↓bO, bS, bA, bF, ↓reduceIte, Nat.reduceEqDiff, reduceCtorEq, tyX]
  refine hK27 _ ?_; try clear hK27 K27
  refine AWp_ret ?_
  try simp only [bF, retQ, aRes, tupOf, bS, bA]
  exact Le.tup ⟨Le.slNil 2, .refl _, trivial⟩
 ·
  simp only [List.set_cons_zero, List.set_cons_succ]
  exact absurd hc16 (by simp)
theorem PartNil (a : Int) : APure Try.prog 33 [.v (.pointer none), .v (.int .i64 a)] (.tup [.agg [.v (.pointer none), .v (.int .i64 0)], .v (.bool false)]) := by
 refine APure.mkL (.cons (.v _) (.cons (.v _) .nil)) (.tup (.cons (.agg (.cons (.v _) (.cons (.v _) .nil))) (.cons (.v _) .nil))) ?_
 refine ACalls_intro Try.func33 (by kernel_rfl) rfl (by rw [Try.ntmps33]; simp) (fun hm => ?_)
 simp only [Try.ntmps33, Try.results33, List.length_cons, List.length_nil, Nat.reduceAdd, Nat.reduceSub, List.replicate_succ, List.replicate_zero, List.cons_append, List.nil_append]
 refine AWp_seqK fun K1 hK1 => ?_
 refine AWp_region ?_
 refine aops_chunk 1 fun C2 hC2 => ?_
 simp only [bL, ↓bO, bS, bA, bF, ↓reduceIte, Nat.reduceEqDiff, reduceCtorEq, zc61, tyX]
 refine hC2 _ ?_; clear hC2 C2
 simp only [bL]
 simp only [↓bO, bS, bA, bF, ↓reduceIte, Nat.reduceEqDiff, reduceCtorEq, tyX]
 refine hK1 _ ?_; try clear hK1 K1
 refine AWp_seqK fun K3 hK3 => ?_
 refine AWp_region ?_
 refine aops_chunk 1 fun C4 hC4 => ?_
 simp only [bL, ↓bO, bS, bA, bF, ↓reduceIte, Nat.reduceEqDiff, reduceCtorEq, tyX]
 refine hC4 _ ?_; clear hC4 C4
 simp only [bL]
 refine aops_chunk 1 fun C5 hC5 => ?_
 simp only [bL, ↓bO, bS, bA, bF, ↓reduceIte, Nat.reduceEqDiff, reduceCtorEq, tyX]
 refine hC5 _ ?_; clear hC5 C5
 simp only [bL]
 refine aops_chunk 1 fun C6 hC6 => ?_
 simp only [bL, ↓bO, bS, bA, bF, ↓reduceIte, Nat.reduceEqDiff, reduceCtorEq, aCallV, tyX]
 refine APure.call (nodeNil a) ?_
 try simp only [bS, bA, bF]
 refine hC6 _ ?_; clear hC6 C6
 simp only [bL]
 refine aops_chunk 1 fun C7 hC7 => ?_
 simp only [bL, ↓bO, bS, bA, bF, ↓reduceIte, Nat.reduceEqDiff, reduceCtorEq, tyX]
 refine hC7 _ ?_; clear hC7 C7
 simp only [bL]
 refine aops_chunk 1 fun C8 hC8 => ?_
 simp only [bL, ↓bO, bS, bA, bF, ↓reduceIte, Nat.reduceEqDiff, reduceCtorEq, aExtract, Nat.reduceAdd, Nat.reduceLT, Nat.zero_lt_succ, tyX]
 refine hC8 _ ?_; clear hC8 C8
 simp only [bL]
 refine aops_chunk 1 fun C9 hC9 => ?_
 simp only [bL, ↓bO, bS, bA, bF, ↓reduceIte, Nat.reduceEqDiff, reduceCtorEq, aExtract, Nat.reduceAdd, Nat.reduceLT, Nat.zero_lt_succ, tyX]
 refine hC9 _ ?_; clear hC9 C9
 simp only [bL]
 refine aops_chunk 1 fun C10 hC10 => ?_
 simp only [bL, ↓bO, bS, bA, bF, ↓reduceIte, Nat.reduceEqDiff, reduceCtorEq, tyX]
 refine hC10 _ ?_; clear hC10 C10
 simp only [bL]
 simp only [↓bO, bS, bA, bF, ↓reduceIte, Nat.reduceEqDiff, reduceCtorEq, tyX]
 refine hK3 _ ?_; try clear hK3 K3
 refine AWp_seqK fun K11 hK11 => ?_
 refine AWp_seqK fun K12 hK12 => ?_
 refine AWp_region ?_
 refine aops_chunk 1 fun C13 hC13 => ?_
 simp only [bL, ↓bO, bS, bA, bF, ↓reduceIte, Nat.reduceEqDiff, reduceCtorEq, tyX]
 refine hC13 _ ?_; clear hC13 C13
 simp only [bL]
 simp only [↓bO, bS, bA, bF, ↓reduceIte, Nat.reduceEqDiff, reduceCtorEq, aUn, tyX]
 refine hK12 _ ?_; try clear hK12 K12
 refine AWp_cond rfl (fun hb15 => ?_) (fun hb15 => ?_)
 ·
  refine AWp_seqK fun K14 hK14 => ?_
  refine AWp_region ?_
  refine aops_chunk 1 fun C15 hC15 => ?_
  simp only [bL, ↓bO, bS, bA, bF, ↓reduceIte, Nat.reduceEqDiff, reduceCtorEq, aBuild, zc61, pc61, aFill, splice, Nat.reduceAdd, Nat.reduceLeDiff, tyX]
  refine hC15 _ ?_; clear hC15 C15
  simp only [bL]
  refine aops_chunk 1 fun C16 hC16 => ?_
  simp only [bL, ↓bO, bS, bA, bF, ↓reduceIte, Nat.reduceEqDiff, reduceCtorEq, aStore, ti61, getO, putO, splice, Nat.reduceAdd, Nat.reduceLeDiff, tyX]
  refine hC16 _ ?_; clear hC16 C16
  simp only [bL]
  simp only [↓bO, bS, bA, bF, ↓reduceIte, Nat.reduceEqDiff, reduceCtorEq, tyX]
  refine hK14 _ ?_; try clear hK14 K14
  refine AWp_ret ?_
  try simp only [bF, retQ, aRes, tupOf, bS, bA, aLoad, getO, pack, bL, Nat.reduceAdd, Nat.reduceLeDiff, Nat.reduceEqDiff, ↓reduceIte, ti61, tyX]
  exact Le.refl _
 ·
  exact absurd hb15 (by simp)
theorem StepsNil : APure Try.prog 19 [.v (.pointer none)] (.v (.int .i64 0)) := by
 refine APure.mkL (.cons (.v _) .nil) (.v _) ?_
 refine ACalls_intro Try.func19 (by kernel_rfl) rfl (by rw [Try.ntmps19]; simp) (fun hm => ?_)
 simp only [Try.ntmps19, Try.results19, List.length_cons, List.length_nil, Nat.reduceAdd, Nat.reduceSub, List.replicate_succ, List.replicate_zero, List.cons_append, List.nil_append]
 refine AWp_seqK fun K1 hK1 => ?_
 refine AWp_region ?_
 simp only [↓bO, bS, bA, bF, ↓reduceIte, Nat.reduceEqDiff, reduceCtorEq, tyX]
 refine hK1 _ ?_; try clear hK1 K1
 refine AWp_seqK fun K2 hK2 => ?_
 refine AWp_seqK fun K3 hK3 => ?_
 refine AWp_region ?_
 refine aops_chunk 1 fun C4 hC4 => ?_
 simp only [bL, ↓bO, bS, bA, bF, ↓reduceIte, Nat.reduceEqDiff, reduceCtorEq, tyX]
 refine hC4 _ ?_; clear hC4 C4
 simp only [bL]
 simp only [↓bO, bS, bA, bF, ↓reduceIte, Nat.reduceEqDiff, reduceCtorEq, aBin, pt25, tyX]
 refine hK3 _ ?_; try clear hK3 K3
 refine AWp_cond rfl (fun hb4 => ?_) (fun hb4 => ?_)
 ·
  refine AWp_seqK fun K5 hK5 => ?_
  refine AWp_region ?_
  simp only [↓bO, bS, bA, bF, ↓reduceIte, Nat.reduceEqDiff, reduceCtorEq, tyX]
  refine hK5 _ ?_; try clear hK5 K5
  refine AWp_ret ?_
  try simp only [bF, retQ, aRes, tupOf, bS, bA]
  exact Le.refl _
 ·
  exact absurd hb4 (by simp)
theorem ClassNil (a : Int) : APure Try.prog 25 [.v (.pointer none), .v (.int .i64 a)] (.sl 1 (([] : List Int).map intC)) := by
 refine APure.mkL (.cons (.v _) (.cons (.v _) .nil)) (dataInts _) ?_
 refine ACalls_intro Try.func25 (by kernel_rfl) rfl (by rw [Try.ntmps25]; simp) (fun hm => ?_)
 simp only [Try.ntmps25, Try.results25, List.length_cons, List.length_nil, Nat.reduceAdd, Nat.reduceSub, List.replicate_succ, List.replicate_zero, List.cons_append, List.nil_append]
 refine AWp_seqK fun K1 hK1 => ?_
 refine AWp_region ?_
 simp only [↓bO, bS, bA, bF, ↓reduceIte, Nat.reduceEqDiff, reduceCtorEq, bL]
 refine hK1 _ ?_; try clear hK1 K1
 refine AWp_seqK fun K2 hK2 => ?_
 refine AWp_region ?_
 simp only [↓bO, bS, bA, bF, ↓reduceIte, Nat.reduceEqDiff, reduceCtorEq, bL]
 refine hK2 _ ?_; try clear hK2 K2
 refine AWp_seqK fun K3 hK3 => ?_
 refine AWp_seqK fun K4 hK4 => ?_
 refine AWp_region ?_
 refine aops_chunk 1 fun C5 hC5 => ?_
 simp only [bL, ↓bO, bS, bA, bF, ↓reduceIte, Nat.reduceEqDiff, reduceCtorEq]
 refine hC5 _ ?_; clear hC5 C5
 simp only [bL]
 refine aops_chunk 1 fun C6 hC6 => ?_
 simp only [bL, ↓bO, bS, bA, bF, ↓reduceIte, Nat.reduceEqDiff, reduceCtorEq, aCallV]
 refine APure.call (VarsNil2) ?_
 try simp only [bS, bA, bF]
 refine hC6 _ ?_; clear hC6 C6
 simp only [bL]
 refine aops_chunk 1 fun C7 hC7 => ?_
 simp only [bL, ↓bO, bS, bA, bF, ↓reduceIte, Nat.reduceEqDiff, reduceCtorEq, getO, aLenX, aLen, ln41, List.length_map]
 refine hC7 _ ?_; clear hC7 C7
 simp only [bL]
 simp only [↓bO, bS, bA, bF, ↓reduceIte, Nat.reduceEqDiff, reduceCtorEq, bL]
 refine hK4 _ ?_; try clear hK4 K4
 refine AWp_block ?_
 refine AWp_loopM (σ := Unit) [true, true, false, false, false, true, false, false, false, true, true, true, false, false, false, false, false, false, false, false, false, false, false, false, false] (fun s => True) (fun s => []) (fun s => []) (fun s => 0) () (trivial) ?_ (fun s hs => ?_)
 ·
  simp only [maskL, setsL, putsO, putO, bA, Nat.reduceEqDiff, ↓reduceIte]
  exact Weak.mk (by simp only [LeL, Le.refl, Le.any, Le.slNil, and_self, Int.natCast_add, Int.cast_ofNat_Int, Int.natCast_one]) (fun _ _ h => h) rfl rfl
 simp only [maskL, setsL, putsO, putO, bA, Nat.reduceEqDiff, ↓reduceIte]
 refine AWp_seqK fun K8 hK8 => ?_
 refine AWp_region ?_
 simp only [↓bO, bS, bA, bF, ↓reduceIte, Nat.reduceEqDiff, reduceCtorEq, aBin, bL]
 refine hK8 _ ?_; try clear hK8 K8
 refine AWp_seqK fun K9 hK9 => ?_
 refine AWp_cond rfl (fun hb12 => ?_) (fun hb12 => ?_)
 ·
  exact absurd hb12 (by simp)
 ·
  refine AWp_exit ?_
  simp only [bF, bA, Nat.reduceEqDiff, ↓reduceIte]
  refine hK3 _ ?_; try clear hK3 K3
  refine AWp_seqK fun K10 hK10 => ?_
  refine AWp_region ?_
  refine aops_chunk 1 fun C11 hC11 => ?_
  simp only [bL, ↓bO, bS, bA, bF, ↓reduceIte, Nat.reduceEqDiff, reduceCtorEq]
  refine hC11 _ ?_; clear hC11 C11
  simp only [bL]
  simp only [↓bO, bS, bA, bF, ↓reduceIte, Nat.reduceEqDiff, reduceCtorEq, bL]
  refine hK10 _ ?_; try clear hK10 K10
  refine AWp_ret ?_
  try simp only [bF, retQ, aRes, tupOf, bS, bA]
  exact Le.slNil 1
theorem UnifyNone_pure (T U : Ty) (a : Int) : APure Try.prog 5 [.agg T.cells, .agg U.cells, .v (.int .i64 a)] (.v (.bool true)) := by
 refine APure.mkL (.cons T.dataAgg (.cons U.dataAgg (.cons (.v _) .nil))) (.v _) ?_
 refine ACalls_intro Try.func5 (by kernel_rfl) rfl (by rw [Try.ntmps5]; simp) (fun hm => ?_)
 simp only [Try.ntmps5, Try.results5, List.length_cons, List.length_nil, Nat.reduceAdd, Nat.reduceSub, List.replicate_succ, List.replicate_zero, List.cons_append, List.nil_append]
 refine AWp_seqK fun K1 hK1 => ?_
 refine AWp_region ?_
 refine aops_chunk 1 fun C2 hC2 => ?_
 simp only [bL, ↓bO, bS, bA, bF, ↓reduceIte, Nat.reduceEqDiff, reduceCtorEq, tyX]
 refine hC2 _ ?_; clear hC2 C2
 simp only [bL]
 refine aops_chunk 1 fun C3 hC3 => ?_
 simp only [bL, ↓bO, bS, bA, bF, ↓reduceIte, Nat.reduceEqDiff, reduceCtorEq, tyX]
 refine hC3 _ ?_; clear hC3 C3
 simp only [bL]
 simp only [↓bO, bS, bA, bF, ↓reduceIte, Nat.reduceEqDiff, reduceCtorEq, tyX, bL]
 refine hK1 _ ?_; try clear hK1 K1
 refine AWp_seqK fun K4 hK4 => ?_
 refine AWp_seqK fun K5 hK5 => ?_
 refine AWp_region ?_
 refine aops_chunk 1 fun C6 hC6 => ?_
 simp only [bL, ↓bO, bS, bA, bF, ↓reduceIte, Nat.reduceEqDiff, reduceCtorEq, aLoad, ti30, getO, pack, Nat.reduceAdd, Nat.reduceLeDiff, tyX]
 refine hC6 _ ?_; clear hC6 C6
 simp only [bL]
 refine aops_chunk 1 fun C7 hC7 => ?_
 simp only [bL, ↓bO, bS, bA, bF, ↓reduceIte, Nat.reduceEqDiff, reduceCtorEq, aCallV, tyX]
 refine APure.call (big12_pure T) ?_
 try simp only [bS, bA, bF]
 refine hC7 _ ?_; clear hC7 C7
 simp only [bL]
 refine aops_chunk 1 fun C8 hC8 => ?_
 simp only [bL, ↓bO, bS, bA, bF, ↓reduceIte, Nat.reduceEqDiff, reduceCtorEq, tyX]
 refine hC8 _ ?_; clear hC8 C8
 simp only [bL]
 refine aops_case 16 rfl (fun hc16 => ?_) (fun hc16 => ?_)
 ·
  simp only [List.set_cons_zero, List.set_cons_succ]
  refine aops_chunk 1 fun C9 hC9 => ?_
  simp only [bL, ↓bO, bS, bA, bF, ↓reduceIte, Nat.reduceEqDiff, reduceCtorEq, undef, aLoad, ti30, getO, pack, Nat.reduceAdd, Nat.reduceLeDiff, tyX]
  refine hC9 _ ?_; clear hC9 C9
  simp only [bL]
  refine aops_chunk 1 fun C10 hC10 => ?_
  simp only [bL, ↓bO, bS, bA, bF, ↓reduceIte, Nat.reduceEqDiff, reduceCtorEq, undef, aCallV, tyX]
  refine hC10 _ ?_; clear hC10 C10
  simp only [bL]
  simp only [↓bO, bS, bA, bF, ↓reduceIte, Nat.reduceEqDiff, reduceCtorEq, aBool, tyX, bL]
  refine hK5 _ ?_; try clear hK5 K5
  refine AWp_cond (b := true) (by first | exact rfl | exact congrArg (fun b => AV.v (.bool b)) hb19) (fun _ => ?_) (fun h => (by cases h))
  refine AWp_seqK fun K11 hK11 => ?_
  refine AWp_region ?_
  refine aops_chunk 1 fun C12 hC12 => ?_
  simp only [bL, ↓bO, bS, bA, bF, ↓reduceIte, Nat.reduceEqDiff, reduceCtorEq, aCallV, tyX]
  refine APure.call (awake12_pure) ?_
  try simp only [bS, bA, bF]
  refine hC12 _ ?_; clear hC12 C12
  simp only [bL]
  simp only [↓bO, bS, bA, bF, ↓reduceIte, Nat.reduceEqDiff, reduceCtorEq, tyX, bL]
  refine hK11 _ ?_; try clear hK11 K11
  refine AWp_ret ?_
  try simp only [bF, retQ, aRes, tupOf, bS, bA]
  exact Le.refl _
 ·
  simp only [List.set_cons_zero, List.set_cons_succ]
  refine aops_chunk 1 fun C13 hC13 => ?_
  simp only [bL, ↓bO, bS, bA, bF, ↓reduceIte, Nat.reduceEqDiff, reduceCtorEq, undef, aLoad, ti30, getO, pack, Nat.reduceAdd, Nat.reduceLeDiff, tyX]
  refine hC13 _ ?_; clear hC13 C13
  simp only [bL]
  refine aops_chunk 1 fun C14 hC14 => ?_
  simp only [bL, ↓bO, bS, bA, bF, ↓reduceIte, Nat.reduceEqDiff, reduceCtorEq, undef, aCallV, tyX]
  refine APure.call (big12_pure U) ?_
  try simp only [bS, bA, bF]
  refine hC14 _ ?_; clear hC14 C14
  simp only [bL]
  simp only [↓bO, bS, bA, bF, ↓reduceIte, Nat.reduceEqDiff, reduceCtorEq, aBool, tyX, bL]
  refine hK5 _ ?_; try clear hK5 K5
  refine AWp_cond rfl (fun hb19 => ?_) (fun hb19 => ?_)
  ·
   refine AWp_seqK fun K15 hK15 => ?_
   refine AWp_region ?_
   refine aops_chunk 1 fun C16 hC16 => ?_
   simp only [bL, ↓bO, bS, bA, bF, ↓reduceIte, Nat.reduceEqDiff, reduceCtorEq, aCallV, tyX]
   refine APure.call (awake12_pure) ?_
   try simp only [bS, bA, bF]
   refine hC16 _ ?_; clear hC16 C16
   simp only [bL]
   simp only [↓bO, bS, bA, bF, ↓reduceIte, Nat.reduceEqDiff, reduceCtorEq, tyX, bL]
   refine hK15 _ ?_; try clear hK15 K15
   refine AWp_ret ?_
   try simp only [bF, retQ, aRes, tupOf, bS, bA]
   exact Le.refl _
  ·
   refine AWp_skip ?_
   try simp only [bF]
   refine hK4 _ ?_; try clear hK4 K4
   refine AWp_seqK fun K17 hK17 => ?_
   refine AWp_region ?_
   simp only [↓bO, bS, bA, bF, ↓reduceIte, Nat.reduceEqDiff, reduceCtorEq, tyX, bL]
   refine hK17 _ ?_; try clear hK17 K17
   refine AWp_seqK fun K18 hK18 => ?_
   refine AWp_region ?_
   refine aops_chunk 1 fun C19 hC19 => ?_
   simp only [bL, ↓bO, bS, bA, bF, ↓reduceIte, Nat.reduceEqDiff, reduceCtorEq, tyX]
   refine hC19 _ ?_; clear hC19 C19
   simp only [bL]
   refine aops_chunk 1 fun C20 hC20 => ?_
   simp only [bL, ↓bO, bS, bA, bF, ↓reduceIte, Nat.reduceEqDiff, reduceCtorEq, tyX]
   refine hC20 _ ?_; clear hC20 C20
   simp only [bL]
   refine aops_chunk 1 fun C21 hC21 => ?_
   simp only [bL, ↓bO, bS, bA, bF, ↓reduceIte, Nat.reduceEqDiff, reduceCtorEq, aCallV, tyX]
   refine APure.call (PartsNil2 a) ?_
   try simp only [bS, bA, bF]
   refine hC21 _ ?_; clear hC21 C21
   simp only [bL]
   refine aops_chunk 1 fun C22 hC22 => ?_
   simp only [bL, ↓bO, bS, bA, bF, ↓reduceIte, Nat.reduceEqDiff, reduceCtorEq, tyX]
   refine hC22 _ ?_; clear hC22 C22
   simp only [bL]
   refine aops_chunk 1 fun C23 hC23 => ?_
   simp only [bL, ↓bO, bS, bA, bF, ↓reduceIte, Nat.reduceEqDiff, reduceCtorEq, aExtract, Nat.reduceAdd, Nat.reduceLT, Nat.zero_lt_succ, tyX]
   refine hC23 _ ?_; clear hC23 C23
   simp only [bL]
   refine aops_chunk 1 fun C24 hC24 => ?_
   simp only [bL, ↓bO, bS, bA, bF, ↓reduceIte, Nat.reduceEqDiff, reduceCtorEq, aExtract, Nat.reduceAdd, Nat.reduceLT, Nat.zero_lt_succ, tyX]
   refine hC24 _ ?_; clear hC24 C24
   simp only [bL]
   refine aops_chunk 1 fun C25 hC25 => ?_
   simp only [bL, ↓bO, bS, bA, bF, ↓reduceIte, Nat.reduceEqDiff, reduceCtorEq, tyX]
   refine hC25 _ ?_; clear hC25 C25
   simp only [bL]
   simp only [↓bO, bS, bA, bF, ↓reduceIte, Nat.reduceEqDiff, reduceCtorEq, tyX, bL]
   refine hK18 _ ?_; try clear hK18 K18
   refine AWp_seqK fun K26 hK26 => ?_
   refine AWp_region ?_
   refine aops_chunk 1 fun C27 hC27 => ?_
   simp only [bL, ↓bO, bS, bA, bF, ↓reduceIte, Nat.reduceEqDiff, reduceCtorEq, tyX]
   refine hC27 _ ?_; clear hC27 C27
   simp only [bL]
   refine aops_chunk 1 fun C28 hC28 => ?_
   simp only [bL, ↓bO, bS, bA, bF, ↓reduceIte, Nat.reduceEqDiff, reduceCtorEq, tyX]
   refine hC28 _ ?_; clear hC28 C28
   simp only [bL]
   refine aops_chunk 1 fun C29 hC29 => ?_
   simp only [bL, ↓bO, bS, bA, bF, ↓reduceIte, Nat.reduceEqDiff, reduceCtorEq, aCallV, tyX]
   refine APure.call (PartNil a) ?_
   try simp only [bS, bA, bF]
   refine hC29 _ ?_; clear hC29 C29
   simp only [bL]
   refine aops_chunk 1 fun C30 hC30 => ?_
   simp only [bL, ↓bO, bS, bA, bF, ↓reduceIte, Nat.reduceEqDiff, reduceCtorEq, tyX]
   refine hC30 _ ?_; clear hC30 C30
   simp only [bL]
   refine aops_chunk 1 fun C31 hC31 => ?_
   simp only [bL, ↓bO, bS, bA, bF, ↓reduceIte, Nat.reduceEqDiff, reduceCtorEq, aExtract, Nat.reduceAdd, Nat.reduceLT, Nat.zero_lt_succ, tyX]
   refine hC31 _ ?_; clear hC31 C31
   simp only [bL]
   refine aops_chunk 1 fun C32 hC32 => ?_
   simp only [bL, ↓bO, bS, bA, bF, ↓reduceIte, Nat.reduceEqDiff, reduceCtorEq, aExtract, Nat.reduceAdd, Nat.reduceLT, Nat.zero_lt_succ, tyX]
   refine hC32 _ ?_; clear hC32 C32
   simp only [bL]
   refine aops_chunk 1 fun C33 hC33 => ?_
   simp only [bL, ↓bO, bS, bA, bF, ↓reduceIte, Nat.reduceEqDiff, reduceCtorEq, zc61, tyX]
   refine hC33 _ ?_; clear hC33 C33
   simp only [bL]
   refine aops_chunk 1 fun C34 hC34 => ?_
   simp only [bL, ↓bO, bS, bA, bF, ↓reduceIte, Nat.reduceEqDiff, reduceCtorEq, aStore, ti61, getO, putO, splice, Nat.reduceAdd, Nat.reduceLeDiff, tyX]
   refine hC34 _ ?_; clear hC34 C34
   simp only [bL]
   simp only [↓bO, bS, bA, bF, ↓reduceIte, Nat.reduceEqDiff, reduceCtorEq, tyX, bL]
   refine hK26 _ ?_; try clear hK26 K26
   refine AWp_seqK fun K35 hK35 => ?_
   refine AWp_region ?_
   refine aops_chunk 1 fun C36 hC36 => ?_
   simp only [bL, ↓bO, bS, bA, bF, ↓reduceIte, Nat.reduceEqDiff, reduceCtorEq, aCallV, tyX]
   refine APure.callL (args := [.v (.slice none 0 0)]) (First_pure [] (by simp [sumP])) ⟨Le.slNil 8, trivial⟩ ?_
   rw [show firstG [] (([] : List EqT).map EqT.p) = (0, 0) from firstG_end _]
   try simp only [bS, bA, bF]
   refine hC36 _ ?_; clear hC36 C36
   simp only [bL]
   refine aops_chunk 1 fun C37 hC37 => ?_
   simp only [bL, ↓bO, bS, bA, bF, ↓reduceIte, Nat.reduceEqDiff, reduceCtorEq, tyX]
   refine hC37 _ ?_; clear hC37 C37
   simp only [bL]
   refine aops_chunk 1 fun C38 hC38 => ?_
   simp only [bL, ↓bO, bS, bA, bF, ↓reduceIte, Nat.reduceEqDiff, reduceCtorEq, aExtract, Nat.reduceAdd, Nat.reduceLT, Nat.zero_lt_succ, tyX]
   refine hC38 _ ?_; clear hC38 C38
   simp only [bL]
   refine aops_chunk 1 fun C39 hC39 => ?_
   simp only [bL, ↓bO, bS, bA, bF, ↓reduceIte, Nat.reduceEqDiff, reduceCtorEq, aExtract, Nat.reduceAdd, Nat.reduceLT, Nat.zero_lt_succ, tyX]
   refine hC39 _ ?_; clear hC39 C39
   simp only [bL]
   refine aops_chunk 1 fun C40 hC40 => ?_
   simp only [bL, ↓bO, bS, bA, bF, ↓reduceIte, Nat.reduceEqDiff, reduceCtorEq, tyX]
   refine hC40 _ ?_; clear hC40 C40
   simp only [bL]
   simp only [↓bO, bS, bA, bF, ↓reduceIte, Nat.reduceEqDiff, reduceCtorEq, tyX, bL]
   refine hK35 _ ?_; try clear hK35 K35
   simp only [List.append_eq, List.cons_append, List.nil_append]
   refine AWp_seqK fun K41 hK41 => ?_
   refine AWp_region ?_
   refine aops_chunk 1 fun C42 hC42 => ?_
   simp only [bL, ↓bO, bS, bA, bF, ↓reduceIte, Nat.reduceEqDiff, reduceCtorEq, tyX]
   refine hC42 _ ?_; clear hC42 C42
   simp only [bL]
   refine aops_chunk 1 fun C43 hC43 => ?_
   simp only [bL, ↓bO, bS, bA, bF, ↓reduceIte, Nat.reduceEqDiff, reduceCtorEq, aLoad, ti30, getO, pack, Nat.reduceAdd, Nat.reduceLeDiff, tyX]
   refine hC43 _ ?_; clear hC43 C43
   simp only [bL]
   refine aops_chunk 1 fun C44 hC44 => ?_
   simp only [bL, ↓bO, bS, bA, bF, ↓reduceIte, Nat.reduceEqDiff, reduceCtorEq, aLoad, ti30, getO, pack, Nat.reduceAdd, Nat.reduceLeDiff, tyX]
   refine hC44 _ ?_; clear hC44 C44
   simp only [bL]
   refine aops_chunk 1 fun C45 hC45 => ?_
   simp only [bL, ↓bO, bS, bA, bF, ↓reduceIte, Nat.reduceEqDiff, reduceCtorEq, aCallV, tyX]
   refine APure.call (EqNil T U) ?_
   try simp only [bS, bA, bF]
   refine hC45 _ ?_; clear hC45 C45
   simp only [bL]
   refine aops_chunk 1 fun C46 hC46 => ?_
   simp only [bL, ↓bO, bS, bA, bF, ↓reduceIte, Nat.reduceEqDiff, reduceCtorEq, aBin, tyX]
   refine hC46 _ ?_; clear hC46 C46
   simp only [bL]
   refine aops_chunk 1 fun C47 hC47 => ?_
   simp only [bL, ↓bO, bS, bA, bF, ↓reduceIte, Nat.reduceEqDiff, reduceCtorEq, tyX]
   refine hC47 _ ?_; clear hC47 C47
   simp only [bL]
   refine aops_case 42 rfl (fun hc42 => ?_) (fun hc42 => ?_)
   ·
    simp only [List.set_cons_zero, List.set_cons_succ]
    refine aops_chunk 1 fun C48 hC48 => ?_
    simp only [bL, ↓bO, bS, bA, bF, ↓reduceIte, Nat.reduceEqDiff, reduceCtorEq, undef, tyX]
    refine hC48 _ ?_; clear hC48 C48
    simp only [bL]
    refine aops_chunk 1 fun C49 hC49 => ?_
    simp only [bL, ↓bO, bS, bA, bF, ↓reduceIte, Nat.reduceEqDiff, reduceCtorEq, undef, aCallV, tyX]
    refine APure.call (ErrNil) ?_
    try simp only [bS, bA, bF]
    refine hC49 _ ?_; clear hC49 C49
    simp only [bL]
    refine aops_chunk 1 fun C50 hC50 => ?_
    simp only [bL, ↓bO, bS, bA, bF, ↓reduceIte, Nat.reduceEqDiff, reduceCtorEq, undef, aBin, tyX]
    refine hC50 _ ?_; clear hC50 C50
    simp only [bL]
    refine aops_chunk 1 fun C51 hC51 => ?_
    simp only [bL, ↓bO, bS, bA, bF, ↓reduceIte, Nat.reduceEqDiff, reduceCtorEq, aBool, tyX]
    refine hC51 _ ?_; clear hC51 C51
    simp only [bL]
    refine aops_chunk 1 fun C52 hC52 => ?_
    simp only [bL, ↓bO, bS, bA, bF, ↓reduceIte, Nat.reduceEqDiff, reduceCtorEq, tyX]
    refine hC52 _ ?_; clear hC52 C52
    simp only [bL]
    refine aops_case 47 rfl (fun hc47 => ?_) (fun hc47 => ?_)
    ·
     simp only [List.set_cons_zero, List.set_cons_succ]
     refine aops_chunk 1 fun C53 hC53 => ?_
     simp only [bL, ↓bO, bS, bA, bF, ↓reduceIte, Nat.reduceEqDiff, reduceCtorEq, undef, tyX]
     refine hC53 _ ?_; clear hC53 C53
     simp only [bL]
     refine aops_chunk 1 fun C54 hC54 => ?_
     simp only [bL, ↓bO, bS, bA, bF, ↓reduceIte, Nat.reduceEqDiff, reduceCtorEq, undef, tyX]
     refine hC54 _ ?_; clear hC54 C54
     simp only [bL]
     refine aops_chunk 1 fun C55 hC55 => ?_
     simp only [bL, ↓bO, bS, bA, bF, ↓reduceIte, Nat.reduceEqDiff, reduceCtorEq, undef, tyX]
     refine hC55 _ ?_; clear hC55 C55
     simp only [bL]
     refine aops_chunk 1 fun C56 hC56 => ?_
     simp only [bL, ↓bO, bS, bA, bF, ↓reduceIte, Nat.reduceEqDiff, reduceCtorEq, undef, aCallV, tyX]
     refine APure.call (SameNil a a) ?_
     try simp only [bS, bA, bF]
     refine hC56 _ ?_; clear hC56 C56
     simp only [bL]
     refine aops_chunk 1 fun C57 hC57 => ?_
     simp only [bL, ↓bO, bS, bA, bF, ↓reduceIte, Nat.reduceEqDiff, reduceCtorEq, undef, aUn, tyX]
     refine hC57 _ ?_; clear hC57 C57
     simp only [bL]
     refine aops_chunk 1 fun C58 hC58 => ?_
     simp only [bL, ↓bO, bS, bA, bF, ↓reduceIte, Nat.reduceEqDiff, reduceCtorEq, aBool, tyX]
     refine hC58 _ ?_; clear hC58 C58
     simp only [bL]
     refine aops_chunk 1 fun C59 hC59 => ?_
     simp only [bL, ↓bO, bS, bA, bF, ↓reduceIte, Nat.reduceEqDiff, reduceCtorEq, tyX]
     refine hC59 _ ?_; clear hC59 C59
     simp only [bL]
     refine aops_case 54 rfl (fun hc54 => ?_) (fun hc54 => ?_)
     ·
      simp only [List.set_cons_zero, List.set_cons_succ]
      refine aops_chunk 1 fun C60 hC60 => ?_
      simp only [bL, ↓bO, bS, bA, bF, ↓reduceIte, Nat.reduceEqDiff, reduceCtorEq, undef, tyX]
      refine hC60 _ ?_; clear hC60 C60
      simp only [bL]
      refine aops_chunk 1 fun C61 hC61 => ?_
      simp only [bL, ↓bO, bS, bA, bF, ↓reduceIte, Nat.reduceEqDiff, reduceCtorEq, undef, tyX]
      refine hC61 _ ?_; clear hC61 C61
      simp only [bL]
      refine aops_chunk 1 fun C62 hC62 => ?_
      simp only [bL, ↓bO, bS, bA, bF, ↓reduceIte, Nat.reduceEqDiff, reduceCtorEq, undef, aCallV, tyX]
      refine APure.call (KindNil2 a) ?_
      try simp only [bS, bA, bF]
      refine hC62 _ ?_; clear hC62 C62
      simp only [bL]
      refine aops_chunk 1 fun C63 hC63 => ?_
      simp only [bL, ↓bO, bS, bA, bF, ↓reduceIte, Nat.reduceEqDiff, reduceCtorEq, undef, aBin, tyX]
      refine hC63 _ ?_; clear hC63 C63
      simp only [bL]
      refine aops_chunk 1 fun C64 hC64 => ?_
      simp only [bL, ↓bO, bS, bA, bF, ↓reduceIte, Nat.reduceEqDiff, reduceCtorEq, aBool, tyX]
      refine hC64 _ ?_; clear hC64 C64
      simp only [bL]
      refine aops_chunk 1 fun C65 hC65 => ?_
      simp only [bL, ↓bO, bS, bA, bF, ↓reduceIte, Nat.reduceEqDiff, reduceCtorEq, tyX]
      refine hC65 _ ?_; clear hC65 C65
      simp only [bL]
      refine aops_case 60 rfl (fun hc60 => ?_) (fun hc60 => ?_)
      ·
       simp only [List.set_cons_zero, List.set_cons_succ]
       refine aops_chunk 1 fun C66 hC66 => ?_
       simp only [bL, ↓bO, bS, bA, bF, ↓reduceIte, Nat.reduceEqDiff, reduceCtorEq, undef, tyX]
       refine hC66 _ ?_; clear hC66 C66
       simp only [bL]
       refine aops_chunk 1 fun C67 hC67 => ?_
       simp only [bL, ↓bO, bS, bA, bF, ↓reduceIte, Nat.reduceEqDiff, reduceCtorEq, undef, aCallV, tyX]
       refine APure.call (VarsNil2) ?_
       try simp only [bS, bA, bF]
       refine hC67 _ ?_; clear hC67 C67
       simp only [bL]
       refine aops_chunk 1 fun C68 hC68 => ?_
       simp only [bL, ↓bO, bS, bA, bF, ↓reduceIte, Nat.reduceEqDiff, reduceCtorEq, undef, getO, aLenX, aLen, ln41, List.length_map, tyX]
       refine hC68 _ ?_; clear hC68 C68
       simp only [bL]
       refine aops_chunk 1 fun C69 hC69 => ?_
       simp only [bL, ↓bO, bS, bA, bF, ↓reduceIte, Nat.reduceEqDiff, reduceCtorEq, undef, aBin, tyX]
       refine hC69 _ ?_; clear hC69 C69
       simp only [bL]
       refine aops_chunk 1 fun C70 hC70 => ?_
       simp only [bL, ↓bO, bS, bA, bF, ↓reduceIte, Nat.reduceEqDiff, reduceCtorEq, aBool, tyX]
       refine hC70 _ ?_; clear hC70 C70
       simp only [bL]
       refine aops_chunk 1 fun C71 hC71 => ?_
       simp only [bL, ↓bO, bS, bA, bF, ↓reduceIte, Nat.reduceEqDiff, reduceCtorEq, tyX]
       refine hC71 _ ?_; clear hC71 C71
       simp only [bL]
       refine aops_case 66 rfl (fun hc66 => ?_) (fun hc66 => ?_)
       ·
        simp only [List.set_cons_zero, List.set_cons_succ]
        refine aops_chunk 1 fun C72 hC72 => ?_
        simp only [bL, ↓bO, bS, bA, bF, ↓reduceIte, Nat.reduceEqDiff, reduceCtorEq, undef, tyX]
        refine hC72 _ ?_; clear hC72 C72
        simp only [bL]
        refine aops_chunk 1 fun C73 hC73 => ?_
        simp only [bL, ↓bO, bS, bA, bF, ↓reduceIte, Nat.reduceEqDiff, reduceCtorEq, undef, tyX]
        refine hC73 _ ?_; clear hC73 C73
        simp only [bL]
        refine aops_chunk 1 fun C74 hC74 => ?_
        simp only [bL, ↓bO, bS, bA, bF, ↓reduceIte, Nat.reduceEqDiff, reduceCtorEq, undef, aCallV, tyX]
        refine APure.call (ClassNil a) ?_
        try simp only [bS, bA, bF]
        refine hC74 _ ?_; clear hC74 C74
        simp only [bL]
        refine aops_chunk 1 fun C75 hC75 => ?_
        simp only [bL, ↓bO, bS, bA, bF, ↓reduceIte, Nat.reduceEqDiff, reduceCtorEq, undef, getO, aLenX, aLen, ln41, List.length_map, tyX]
        refine hC75 _ ?_; clear hC75 C75
        simp only [bL]
        refine aops_chunk 1 fun C76 hC76 => ?_
        simp only [bL, ↓bO, bS, bA, bF, ↓reduceIte, Nat.reduceEqDiff, reduceCtorEq, undef, aBin, tyX]
        refine hC76 _ ?_; clear hC76 C76
        simp only [bL]
        refine aops_chunk 1 fun C77 hC77 => ?_
        simp only [bL, ↓bO, bS, bA, bF, ↓reduceIte, Nat.reduceEqDiff, reduceCtorEq, aBool, tyX]
        refine hC77 _ ?_; clear hC77 C77
        simp only [bL]
        refine aops_chunk 1 fun C78 hC78 => ?_
        simp only [bL, ↓bO, bS, bA, bF, ↓reduceIte, Nat.reduceEqDiff, reduceCtorEq, tyX]
        refine hC78 _ ?_; clear hC78 C78
        simp only [bL]
        refine aops_case 73 rfl (fun hc73 => ?_) (fun hc73 => ?_)
        ·
         simp only [List.set_cons_zero, List.set_cons_succ]
         refine aops_chunk 1 fun C79 hC79 => ?_
         simp only [bL, ↓bO, bS, bA, bF, ↓reduceIte, Nat.reduceEqDiff, reduceCtorEq, undef, tyX]
         refine hC79 _ ?_; clear hC79 C79
         simp only [bL]
         refine aops_chunk 1 fun C80 hC80 => ?_
         simp only [bL, ↓bO, bS, bA, bF, ↓reduceIte, Nat.reduceEqDiff, reduceCtorEq, undef, getO, aLenX, aLen, ln49, List.length_map, tyX]
         refine hC80 _ ?_; clear hC80 C80
         simp only [bL]
         refine aops_chunk 1 fun C81 hC81 => ?_
         simp only [bL, ↓bO, bS, bA, bF, ↓reduceIte, Nat.reduceEqDiff, reduceCtorEq, undef, aBin, tyX]
         refine hC81 _ ?_; clear hC81 C81
         simp only [bL]
         refine aops_chunk 1 fun C82 hC82 => ?_
         simp only [bL, ↓bO, bS, bA, bF, ↓reduceIte, Nat.reduceEqDiff, reduceCtorEq, aBool, tyX]
         refine hC82 _ ?_; clear hC82 C82
         simp only [bL]
         refine aops_chunk 1 fun C83 hC83 => ?_
         simp only [bL, ↓bO, bS, bA, bF, ↓reduceIte, Nat.reduceEqDiff, reduceCtorEq, tyX]
         refine hC83 _ ?_; clear hC83 C83
         simp only [bL]
         refine aops_case 78 rfl (fun hc78 => ?_) (fun hc78 => ?_)
         ·
          simp only [List.set_cons_zero, List.set_cons_succ]
          refine aops_chunk 1 fun C84 hC84 => ?_
          simp only [bL, ↓bO, bS, bA, bF, ↓reduceIte, Nat.reduceEqDiff, reduceCtorEq, undef, tyX]
          refine hC84 _ ?_; clear hC84 C84
          simp only [bL]
          refine aops_chunk 1 fun C85 hC85 => ?_
          simp only [bL, ↓bO, bS, bA, bF, ↓reduceIte, Nat.reduceEqDiff, reduceCtorEq, undef, aUn, tyX]
          refine hC85 _ ?_; clear hC85 C85
          simp only [bL]
          refine aops_chunk 1 fun C86 hC86 => ?_
          simp only [bL, ↓bO, bS, bA, bF, ↓reduceIte, Nat.reduceEqDiff, reduceCtorEq, aBool, tyX]
          refine hC86 _ ?_; clear hC86 C86
          simp only [bL]
          refine aops_chunk 1 fun C87 hC87 => ?_
          simp only [bL, ↓bO, bS, bA, bF, ↓reduceIte, Nat.reduceEqDiff, reduceCtorEq, tyX]
          refine hC87 _ ?_; clear hC87 C87
          simp only [bL]
          refine aops_case 82 rfl (fun hc82 => ?_) (fun hc82 => ?_)
          ·
           simp only [List.set_cons_zero, List.set_cons_succ]
           refine aops_chunk 1 fun C88 hC88 => ?_
           simp only [bL, ↓bO, bS, bA, bF, ↓reduceIte, Nat.reduceEqDiff, reduceCtorEq, undef, tyX]
           refine hC88 _ ?_; clear hC88 C88
           simp only [bL]
           refine aops_chunk 1 fun C89 hC89 => ?_
           simp only [bL, ↓bO, bS, bA, bF, ↓reduceIte, Nat.reduceEqDiff, reduceCtorEq, undef, aUn, tyX]
           refine hC89 _ ?_; clear hC89 C89
           simp only [bL]
           refine aops_chunk 1 fun C90 hC90 => ?_
           simp only [bL, ↓bO, bS, bA, bF, ↓reduceIte, Nat.reduceEqDiff, reduceCtorEq, aBool, tyX]
           refine hC90 _ ?_; clear hC90 C90
           simp only [bL]
           refine aops_chunk 1 fun C91 hC91 => ?_
           simp only [bL, ↓bO, bS, bA, bF, ↓reduceIte, Nat.reduceEqDiff, reduceCtorEq, tyX]
           refine hC91 _ ?_; clear hC91 C91
           simp only [bL]
           refine aops_case 86 rfl (fun hc86 => ?_) (fun hc86 => ?_)
           ·
            simp only [List.set_cons_zero, List.set_cons_succ]
            refine aops_chunk 1 fun C92 hC92 => ?_
            simp only [bL, ↓bO, bS, bA, bF, ↓reduceIte, Nat.reduceEqDiff, reduceCtorEq, undef, tyX]
            refine hC92 _ ?_; clear hC92 C92
            simp only [bL]
            refine aops_chunk 1 fun C93 hC93 => ?_
            simp only [bL, ↓bO, bS, bA, bF, ↓reduceIte, Nat.reduceEqDiff, reduceCtorEq, undef, aCallV, tyX]
            refine APure.call (StepsNil) ?_
            try simp only [bS, bA, bF]
            refine hC93 _ ?_; clear hC93 C93
            simp only [bL]
            refine aops_chunk 1 fun C94 hC94 => ?_
            simp only [bL, ↓bO, bS, bA, bF, ↓reduceIte, Nat.reduceEqDiff, reduceCtorEq, undef, aBin, tyX]
            refine hC94 _ ?_; clear hC94 C94
            simp only [bL]
            refine aops_chunk 1 fun C95 hC95 => ?_
            simp only [bL, ↓bO, bS, bA, bF, ↓reduceIte, Nat.reduceEqDiff, reduceCtorEq, aBool, tyX]
            refine hC95 _ ?_; clear hC95 C95
            simp only [bL]
            refine aops_chunk 1 fun C96 hC96 => ?_
            simp only [bL, ↓bO, bS, bA, bF, ↓reduceIte, Nat.reduceEqDiff, reduceCtorEq, tyX]
            refine hC96 _ ?_; clear hC96 C96
            simp only [bL]
            refine aops_case 91 rfl (fun hc91 => ?_) (fun hc91 => ?_)
            ·
             simp only [List.set_cons_zero, List.set_cons_succ]
             refine aops_chunk 1 fun C97 hC97 => ?_
             simp only [bL, ↓bO, bS, bA, bF, ↓reduceIte, Nat.reduceEqDiff, reduceCtorEq, undef, tyX]
             refine hC97 _ ?_; clear hC97 C97
             simp only [bL]
             refine aops_chunk 1 fun C98 hC98 => ?_
             simp only [bL, ↓bO, bS, bA, bF, ↓reduceIte, Nat.reduceEqDiff, reduceCtorEq, undef, aBin, tyX]
             refine hC98 _ ?_; clear hC98 C98
             simp only [bL]
             refine aops_chunk 1 fun C99 hC99 => ?_
             simp only [bL, ↓bO, bS, bA, bF, ↓reduceIte, Nat.reduceEqDiff, reduceCtorEq, aBool, tyX]
             refine hC99 _ ?_; clear hC99 C99
             simp only [bL]
             refine aops_chunk 1 fun C100 hC100 => ?_
             simp only [bL, ↓bO, bS, bA, bF, ↓reduceIte, Nat.reduceEqDiff, reduceCtorEq, tyX]
             refine hC100 _ ?_; clear hC100 C100
             simp only [bL]
             refine aops_case 95 rfl (fun hc95 => ?_) (fun hc95 => ?_)
             ·
              simp only [List.set_cons_zero, List.set_cons_succ]
              refine aops_chunk 1 fun C101 hC101 => ?_
              simp only [bL, ↓bO, bS, bA, bF, ↓reduceIte, Nat.reduceEqDiff, reduceCtorEq, undef, tyX]
              refine hC101 _ ?_; clear hC101 C101
              simp only [bL]
              refine aops_chunk 1 fun C102 hC102 => ?_
              simp only [bL, ↓bO, bS, bA, bF, ↓reduceIte, Nat.reduceEqDiff, reduceCtorEq, undef, aBin, tyX]
              refine hC102 _ ?_; clear hC102 C102
              simp only [bL]
              refine aops_chunk 1 fun C103 hC103 => ?_
              simp only [bL, ↓bO, bS, bA, bF, ↓reduceIte, Nat.reduceEqDiff, reduceCtorEq, aBool, tyX]
              refine hC103 _ ?_; clear hC103 C103
              simp only [bL]
              refine aops_chunk 1 fun C104 hC104 => ?_
              simp only [bL, ↓bO, bS, bA, bF, ↓reduceIte, Nat.reduceEqDiff, reduceCtorEq, tyX]
              refine hC104 _ ?_; clear hC104 C104
              simp only [bL]
              refine aops_case 99 rfl (fun hc99 => ?_) (fun hc99 => ?_)
              ·
               simp only [List.set_cons_zero, List.set_cons_succ]
               refine aops_chunk 1 fun C105 hC105 => ?_
               simp only [bL, ↓bO, bS, bA, bF, ↓reduceIte, Nat.reduceEqDiff, reduceCtorEq, undef, aCallV, tyX]
               refine APure.call (awake12_pure) ?_
               try simp only [bS, bA, bF]
               refine hC105 _ ?_; clear hC105 C105
               simp only [bL]
               refine aops_chunk 1 fun C106 hC106 => ?_
               simp only [bL, ↓bO, bS, bA, bF, ↓reduceIte, Nat.reduceEqDiff, reduceCtorEq, aBool, tyX]
               refine hC106 _ ?_; clear hC106 C106
               simp only [bL]
               simp only [↓bO, bS, bA, bF, ↓reduceIte, Nat.reduceEqDiff, reduceCtorEq, tyX, bL]
               refine hK41 _ ?_; try clear hK41 K41
               refine AWp_ret ?_
               try simp only [bF, retQ, aRes, tupOf, bS, bA]
               exact Le.refl _
              ·
               simp only [List.set_cons_zero, List.set_cons_succ]
               exact absurd hc99 (by simp)
             ·
              simp only [List.set_cons_zero, List.set_cons_succ]
              exact absurd hc95 (by simp)
            ·
             simp only [List.set_cons_zero, List.set_cons_succ]
             exact absurd hc91 (by simp)
           ·
            simp only [List.set_cons_zero, List.set_cons_succ]
            exact absurd hc86 (by simp)
          ·
           simp only [List.set_cons_zero, List.set_cons_succ]
           exact absurd hc82 (by simp)
         ·
          simp only [List.set_cons_zero, List.set_cons_succ]
          exact absurd hc78 (by simp)
        ·
         simp only [List.set_cons_zero, List.set_cons_succ]
         exact absurd hc73 (by simp)
       ·
        simp only [List.set_cons_zero, List.set_cons_succ]
        exact absurd hc66 (by simp)
      ·
       simp only [List.set_cons_zero, List.set_cons_succ]
       exact absurd hc60 (by simp)
     ·
      simp only [List.set_cons_zero, List.set_cons_succ]
      exact absurd hc54 (by simp)
    ·
     simp only [List.set_cons_zero, List.set_cons_succ]
     exact absurd hc47 (by simp)
   ·
    simp only [List.set_cons_zero, List.set_cons_succ]
    exact absurd hc42 (by simp)
end Go.Proofs.Ytjjjckjebkmnjaa
namespace Go.Proofs.Ytjjjckjebkmnjaa.unifyNone
open Go Go.ChangeShapes Go.WideShapes Go.ChangeAt Go.RowKit
set_option linter.unusedVariables false
theorem own : ownKnob Try.prog.godebug = none := by kernel_rfl
theorem laidOut : laidOutB Try.prog = true := by kernel_rfl
theorem cT : Try.prog.cellsOf 30 = 3 := by kernel_rfl
theorem cI : Try.prog.cellsOf 3 = 1 := by kernel_rfl
theorem cS : Try.prog.cellsOf 28 = 1 := by kernel_rfl
section
variable {H : Type} {enc : TypeId × Value → H} {w : World} {base : Nat} {spare : Nat → Bool} {held : Bool}
theorem rdT (fuel : Nat) : Rd enc Try.prog w base spare held Env.none fuel 30 Ty.cells :=
  rd_ty Try.underlying30 cT rfl rfl rfl rfl rfl rfl Try.underlying3 cI Try.underlying28 cS fuel
theorem rdS (fuel : Nat) : Rd enc Try.prog w base spare held Env.none fuel 28 (fun xs : List Ty => [.sl 3 (xs.map Ty.cells)]) :=
  rd_slice Try.underlying28 cT (by omega) Ty.cells_len fun n _ => rdT n
end
set_option maxRecDepth 100000 in
theorem lifted (os : Go.Os) (started : os.Started) (H : Type) (enc : TypeId × Value → H) :
    ReturnsInHanded {} Try.checked os 5 .any (Rows.unifyNoneSpec.pre6 enc Try.prog Try.f5 Rows.unifyNoneRow.domain false) (Rows.unifyNoneSpec.post enc Try.prog Try.f5 false true false false) := by
  refine returnsInHanded_of_change (C := Try.checked) own started (by kernel_rfl) Try.func5
    (ChangeSpec.witness6 (enc := enc) (C := Try.checked) false ⟨#[], #[.agg #[.int .i64 0, .int .i64 0, .slice none 0 0], .agg #[.int .i64 0, .int .i64 0, .slice none 0 0], .int .i64 0], []⟩ 8 (by kernel_rfl) (by kernel_rfl) (by kernel_rfl) (by kernel_rfl)) ?_
  intro W base args ds gs before hval0 hW hcnd _
  have hval : ∀ (j : Nat) t v, Try.f5.params[j]? = some t → args[j]? = some v → Value.okWide Try.prog W .any base t v := hval0
  have hW' := hW
  obtain ⟨p, q, hA0, hV, rfl, hfz, hnd⟩ := hW
  have hA : DataW.TrodAll enc Try.prog W 0 (fun _ => true) true Try.f5.params.toList args.toList ds p := hA0
  rw [Try.params5] at hA hval
  obtain ⟨v0, vs0, d0, ds0, p0, q0, hargs, rfl, rfl, h0, r0⟩ := trodAll_cons hA
  obtain ⟨v1, vs1, d1, ds1, p1, q1, rfl, rfl, rfl, h1, r1⟩ := trodAll_cons r0
  obtain ⟨v2, vs2, d2, ds2, p2, q2, rfl, rfl, rfl, h2, r2⟩ := trodAll_cons r1
  obtain ⟨rfl, rfl, rfl⟩ := trodAll_nil r2
  obtain rfl : args = #[v0, v1, v2] := by cases args; simp_all
  obtain ⟨rfl, rfl⟩ := trodVars_none hV
  have k0 := h0
  have lt0 : ∀ x ∈ p0, x.block < W.heap.size := by obtain ⟨m, hm⟩ := k0; exact DataW.trod_lt m _ _ _ hm
  obtain ⟨us0, hus0⟩ : ∃ us, v0 = .agg us := (by obtain ⟨cs, h, _⟩ := okWide_struct Try.underlying30 (hval 0 30 v0 rfl rfl); exact ⟨cs, h⟩)
  subst hus0
  obtain ⟨T0, hr0⟩ : ∃ T : Ty, Rp Env.none (fun _ _ => False) W (.agg T.cells) (.agg us0) := by
    obtain ⟨m, hm⟩ := h0
    obtain ⟨T, hl, hr⟩ := rdT m _ _ hm
    exact ⟨T, .agg (by simpa [Value.cells] using hl) fun i c u hc hu => hr i c u hc (by simpa [Value.cells] using hu)⟩
  have k1 := h1
  have lt1 : ∀ x ∈ p1, x.block < W.heap.size := by obtain ⟨m, hm⟩ := k1; exact DataW.trod_lt m _ _ _ hm
  obtain ⟨us1, hus1⟩ : ∃ us, v1 = .agg us := (by obtain ⟨cs, h, _⟩ := okWide_struct Try.underlying30 (hval 1 30 v1 rfl rfl); exact ⟨cs, h⟩)
  subst hus1
  obtain ⟨T1, hr1⟩ : ∃ T : Ty, Rp Env.none (fun _ _ => False) W (.agg T.cells) (.agg us1) := by
    obtain ⟨m, hm⟩ := h1
    obtain ⟨T, hl, hr⟩ := rdT m _ _ hm
    exact ⟨T, .agg (by simpa [Value.cells] using hl) fun i c u hc hu => hr i c u hc (by simpa [Value.cells] using hu)⟩
  obtain ⟨a2, rfl, rfl, rfl, w2⟩ := open_int Try.underlying3 (hval 2 3 v2 rfl rfl) h2
  clear hA0 hval0
  refine ((UnifyNone_pure T0 T1 a2).calls (w := W) rfl ?_).mono fun e W' ⟨he, bel⟩ => ?_
  · intro i c u hc hu
    match i with
    | 0 => simp at hc hu; subst hc; subst hu; exact hr0
    | 1 => simp at hc hu; subst hc; subst hu; exact hr1
    | 2 => simp at hc hu; subst hc; subst hu; exact .v _
    | i + 3 => simp at hc
  subst he
  exact ⟨_, rfl, _, _, _, [], _, [], hW', trodAll_mk1 (shut_bool Try.underlying4 _), (trodAll_cons_mk (Below.trod laidOut (by kernel_rfl) (of_decide_eq_true (by kernel_rfl)) k0 bel lt0) (trodAll_cons_mk (Below.trod laidOut (by kernel_rfl) (of_decide_eq_true (by kernel_rfl)) k1 bel lt1) (trodAll_cons_mk (shut_int Try.underlying3 w2) trodAll_mk0))), rfl, bel.frame _, fun h => by cases h⟩
theorem over : Rows.unifyNoneRow.holds Try.pinned (OpenSpec.ofChange Rows.unifyNoneSpec) :=
  OpenClaim.holds_of_wide 5 Try.f5 rfl rfl rfl rfl rfl rfl rfl ⟨rfl, rfl, rfl, rfl, rfl⟩ rfl rfl rfl rfl rfl (by kernel_rfl) Try.func5 (by kernel_rfl)
    (of_decide_eq_true (by kernel_rfl)) (by unfold Func.isWrapper; first | (rw [if_pos (by decide +kernel)]; kernel_rfl) | (rw [if_neg (by decide +kernel)]; exact ⟨rfl, rfl⟩))
    (fun os started H enc _ => lifted os started H enc)
end Go.Proofs.Ytjjjckjebkmnjaa.unifyNone
namespace Go.Proofs.Ytjjjckjebkmnjaa
theorem unifyNone_proved : Rows.UnifyNoneSaid := unifyNone.over
#print axioms unifyNone_proved
end Go.Proofs.Ytjjjckjebkmnjaa
