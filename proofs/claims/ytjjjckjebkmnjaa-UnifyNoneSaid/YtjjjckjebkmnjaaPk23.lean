/- Texts of the abstract walk, of the contracts and of the plain laws, packed (part 23 of 41): Same Right Types Sizes Ref11. Conditions: none. -/
import Derived.Test.YtjjjckjebkmnjaaPk22
namespace Go.Proofs.Ytjjjckjebkmnjaa
open Go Go.RowKit
set_option maxRecDepth 100000
set_option maxHeartbeats 1000000
set_option linter.unusedSimpArgs false
set_option linter.unusedVariables false
attribute [local irreducible] aops dRun
theorem Ty.ind {C : Ty → Prop} (h : ∀ T, (∀ p ∈ T.ps, C p) → C T) : ∀ T, C T := by
  have key : ∀ n, ∀ T : Ty, SizeOf.sizeOf T ≤ n → C T := by
    intro n
    induction n with
    | zero => intro T hT; cases T; simp at hT
    | succ n ih =>
      intro T hT
      refine h T (fun p hp => ih p ?_)
      cases T with
      | mk k m ps =>
        have := List.sizeOf_lt_of_mem (show p ∈ ps from hp)
        simp at hT
        omega
  exact fun T => key _ T (Nat.le_refl _)
mutual
def Ty.same : Ty → Ty → Bool
  | .mk k n ps, .mk k' n' ps' => k == k' && n == n' && Ty.sameL ps ps'
def Ty.sameL : List Ty → List Ty → Bool
  | [], [] => true
  | p :: ps, q :: qs => Ty.same p q && Ty.sameL ps qs
  | _, _ => false
end
end Go.Proofs.Ytjjjckjebkmnjaa
namespace Go.Proofs.Ytjjjckjebkmnjaa
open Go Go.RowKit
set_option maxRecDepth 100000
set_option maxHeartbeats 1000000
set_option linter.unusedSimpArgs false
set_option linter.unusedVariables false
attribute [local irreducible] aops dRun
def okN (k n : Int) (len : Nat) : Bool :=
  decide ((k = 1 ∧ 0 ≤ n ∧ n < 1073741824 ∧ len = 0) ∨ (n = 0 ∧ (((k = 2 ∨ k = 3) ∧ len = 0) ∨ (k = 4 ∧ len = 2) ∨ (k = 5 ∧ 2 ≤ len ∧ len ≤ 8))))
mutual
def Ty.right : Ty → Bool
  | .mk k n ps => okN k n ps.length && Ty.rightL ps
def Ty.rightL : List Ty → Bool
  | [] => true
  | p :: ps => Ty.right p && Ty.rightL ps
end
theorem Ty.rightL_eq : ∀ ps, Ty.rightL ps = ps.all Ty.right
  | [] => by simp [Ty.rightL]
  | p :: ps => by simp [Ty.rightL, Ty.rightL_eq ps]
theorem Ty.right_eq (t : Ty) : t.right = (okN t.k t.n t.ps.length && t.ps.all Ty.right) := by cases t; simp [Ty.right, Ty.rightL_eq, Ty.k, Ty.n, Ty.ps]
theorem known_pure (n : Int) : APure Try.prog 95 [.v (.int .i64 n)] (.v (.bool (decide (0 ≤ n ∧ n < 1073741824)))) := by
 refine APure.mkL (.cons (.v _) .nil) (.v _) ?_
 refine ACalls_intro Try.func95 (by kernel_rfl) rfl (by rw [Try.ntmps95]; simp) (fun hm => ?_)
 simp only [Try.ntmps95, Try.results95, List.length_cons, List.length_nil, Nat.reduceAdd, Nat.reduceSub, List.replicate_succ, List.replicate_zero, List.cons_append, List.nil_append]
 refine AWp_seqK fun K1 hK1 => ?_
 refine AWp_region ?_
 simp only [↓bO, bS, bA, bF, ↓reduceIte, Nat.reduceEqDiff, reduceCtorEq, tyX]
 refine hK1 _ ?_; try clear hK1 K1
 refine AWp_seqK fun K2 hK2 => ?_
 refine AWp_region ?_
 refine aops_chunk 3 fun C3 hC3 => ?_
 simp only [bL, ↓bO, bS, bA, bF, ↓reduceIte, Nat.reduceEqDiff, reduceCtorEq, aBin, tyX]
 refine hC3 _ ?_; clear hC3 C3
 simp only [bL]
 refine aops_case 5 rfl (fun hc5 => ?_) (fun hc5 => ?_)
 ·
  simp only [List.set_cons_zero, List.set_cons_succ]
  simp only [↓bO, bS, bA, bF, ↓reduceIte, Nat.reduceEqDiff, reduceCtorEq, bL, undef, aBin, aBool, tyX]
  refine hK2 _ ?_; try clear hK2 K2
  refine AWp_ret ?_
  try simp only [bF, retQ, aRes, tupOf, bS, bA]
  refine Le.of_eq (congrArg (fun b => AV.v (.bool b)) ?_)
  simp at *; omega
 ·
  simp only [List.set_cons_zero, List.set_cons_succ]
  simp only [↓bO, bS, bA, bF, ↓reduceIte, Nat.reduceEqDiff, reduceCtorEq, bL, undef, aBin, aBool, tyX]
  refine hK2 _ ?_; try clear hK2 K2
  refine AWp_ret ?_
  try simp only [bF, retQ, aRes, tupOf, bS, bA]
  refine Le.of_eq (congrArg (fun b => AV.v (.bool b)) ?_)
  simp at *; omega
theorem plain_pure (T : Ty) : APure Try.prog 78 [.agg T.cells] (.v (.bool (okN T.k T.n T.ps.length))) := by
 refine APure.mkL (.cons T.dataAgg .nil) (.v _) ?_
 refine ACalls_intro Try.func78 (by kernel_rfl) rfl (by rw [Try.ntmps78]; simp) (fun hm => ?_)
 simp only [Try.ntmps78, Try.results78, List.length_cons, List.length_nil, Nat.reduceAdd, Nat.reduceSub, List.replicate_succ, List.replicate_zero, List.cons_append, List.nil_append]
 refine AWp_seqK fun K1 hK1 => ?_
 refine AWp_region ?_
 simp only [↓bO, bS, bA, bF, ↓reduceIte, Nat.reduceEqDiff, reduceCtorEq, tyX]
 refine hK1 _ ?_; try clear hK1 K1
 refine AWp_seqK fun K2 hK2 => ?_
 refine AWp_region ?_
 refine aops_chunk 3 fun C3 hC3 => ?_
 simp only [bL, ↓bO, bS, bA, bF, ↓reduceIte, Nat.reduceEqDiff, reduceCtorEq, aField, fo30_2, Nat.reduceAdd, aLoad, ti28, getO, pack, Nat.reduceLeDiff, aLenX, aLen, ln28, List.length_map, tyX]
 refine hC3 _ ?_; clear hC3 C3
 simp only [bL]
 simp only [↓bO, bS, bA, bF, ↓reduceIte, Nat.reduceEqDiff, reduceCtorEq, tyX]
 refine hK2 _ ?_; try clear hK2 K2
 refine AWp_seqK fun K4 hK4 => ?_
 refine AWp_seqK fun K5 hK5 => ?_
 refine AWp_region ?_
 simp only [↓bO, bS, bA, bF, ↓reduceIte, Nat.reduceEqDiff, reduceCtorEq, aField, fo30_0, bL, Nat.reduceAdd, aLoad, ti3, getO, pack, Nat.reduceLeDiff, tyX]
 refine hK5 _ ?_; try clear hK5 K5
 refine AWp_block ?_
 refine AWp_seqK fun K6 hK6 => ?_
 refine AWp_region ?_
 simp only [↓bO, bS, bA, bF, ↓reduceIte, Nat.reduceEqDiff, reduceCtorEq, aBin, tyX]
 refine hK6 _ ?_; try clear hK6 K6
 refine AWp_cond rfl (fun hb9 => ?_) (fun hb9 => ?_)
 ·
  refine AWp_seqK fun K7 hK7 => ?_
  refine AWp_region ?_
  refine aops_chunk 2 fun C8 hC8 => ?_
  simp only [bL, ↓bO, bS, bA, bF, ↓reduceIte, Nat.reduceEqDiff, reduceCtorEq, aField, fo30_1, Nat.reduceAdd, aLoad, ti3, getO, pack, Nat.reduceLeDiff, tyX]
  refine hC8 _ ?_; clear hC8 C8
  simp only [bL]
  refine aops_chunk 1 fun C9 hC9 => ?_
  simp only [bL, ↓bO, bS, bA, bF, ↓reduceIte, Nat.reduceEqDiff, reduceCtorEq, aCallV, tyX]
  refine APure.call (known_pure T.n) ?_
  try simp only [bS, bA, bF]
  refine hC9 _ ?_; clear hC9 C9
  simp only [bL]
  refine aops_chunk 1 fun C10 hC10 => ?_
  simp only [bL, ↓bO, bS, bA, bF, ↓reduceIte, Nat.reduceEqDiff, reduceCtorEq, tyX]
  refine hC10 _ ?_; clear hC10 C10
  simp only [bL]
  refine aops_case 14 rfl (fun hc14 => ?_) (fun hc14 => ?_)
  ·
   simp only [List.set_cons_zero, List.set_cons_succ]
   refine aops_chunk 3 fun C11 hC11 => ?_
   simp only [bL, ↓bO, bS, bA, bF, ↓reduceIte, Nat.reduceEqDiff, reduceCtorEq, undef, aBin, aBool, tyX]
   refine hC11 _ ?_; clear hC11 C11
   simp only [bL]
   simp only [↓bO, bS, bA, bF, ↓reduceIte, Nat.reduceEqDiff, reduceCtorEq, tyX]
   refine hK7 _ ?_; try clear hK7 K7
   refine AWp_ret ?_
   try simp only [bF, retQ, aRes, tupOf, bS, bA]
   refine Le.of_eq (congrArg (fun b => AV.v (.bool b)) ?_)
   rw [Bool.eq_iff_iff]
   simp only [okN, decide_eq_true_eq, beq_iff_eq, Bool.false_eq_true, beq_eq_false_iff_ne, ne_eq, decide_eq_false_iff_not, false_iff, true_iff, and_true, true_and] at *
   try omega
  ·
   simp only [List.set_cons_zero, List.set_cons_succ]
   refine aops_chunk 3 fun C12 hC12 => ?_
   simp only [bL, ↓bO, bS, bA, bF, ↓reduceIte, Nat.reduceEqDiff, reduceCtorEq, undef, aBin, aBool, tyX]
   refine hC12 _ ?_; clear hC12 C12
   simp only [bL]
   simp only [↓bO, bS, bA, bF, ↓reduceIte, Nat.reduceEqDiff, reduceCtorEq, tyX]
   refine hK7 _ ?_; try clear hK7 K7
   refine AWp_ret ?_
   try simp only [bF, retQ, aRes, tupOf, bS, bA]
   refine Le.of_eq (congrArg (fun b => AV.v (.bool b)) ?_)
   rw [Bool.eq_iff_iff]
   simp only [okN, decide_eq_true_eq, beq_iff_eq, Bool.false_eq_true, beq_eq_false_iff_ne, ne_eq, decide_eq_false_iff_not, false_iff, true_iff, and_true, true_and] at *
   try omega
 ·
  refine AWp_seqK fun K13 hK13 => ?_
  refine AWp_seqK fun K14 hK14 => ?_
  refine AWp_region ?_
  simp only [↓bO, bS, bA, bF, ↓reduceIte, Nat.reduceEqDiff, reduceCtorEq, aBin, tyX]
  refine hK14 _ ?_; try clear hK14 K14
  refine AWp_cond rfl (fun hb18 => ?_) (fun hb18 => ?_)
  ·
   refine AWp_skip ?_
   try simp only [bF]
   refine hK13 _ ?_; try clear hK13 K13
   refine AWp_cond (b := true) (by first | exact rfl | exact congrArg (fun b => AV.v (.bool b)) hb18) (fun _ => ?_) (fun h => (by cases h))
   refine AWp_seqK fun K15 hK15 => ?_
   refine AWp_region ?_
   refine aops_chunk 3 fun C16 hC16 => ?_
   simp only [bL, ↓bO, bS, bA, bF, ↓reduceIte, Nat.reduceEqDiff, reduceCtorEq, aField, fo30_1, Nat.reduceAdd, aLoad, ti3, getO, pack, Nat.reduceLeDiff, aBin, tyX]
   refine hC16 _ ?_; clear hC16 C16
   simp only [bL]
   refine aops_chunk 1 fun C17 hC17 => ?_
   simp only [bL, ↓bO, bS, bA, bF, ↓reduceIte, Nat.reduceEqDiff, reduceCtorEq, tyX]
   refine hC17 _ ?_; clear hC17 C17
   simp only [bL]
   refine aops_case 24 rfl (fun hc24 => ?_) (fun hc24 => ?_)
   ·
    simp only [List.set_cons_zero, List.set_cons_succ]
    refine aops_chunk 3 fun C18 hC18 => ?_
    simp only [bL, ↓bO, bS, bA, bF, ↓reduceIte, Nat.reduceEqDiff, reduceCtorEq, undef, aBin, aBool, tyX]
    refine hC18 _ ?_; clear hC18 C18
    simp only [bL]
    simp only [↓bO, bS, bA, bF, ↓reduceIte, Nat.reduceEqDiff, reduceCtorEq, tyX]
    refine hK15 _ ?_; try clear hK15 K15
    refine AWp_ret ?_
    try simp only [bF, retQ, aRes, tupOf, bS, bA]
    refine Le.of_eq (congrArg (fun b => AV.v (.bool b)) ?_)
    rw [Bool.eq_iff_iff]
    simp only [okN, decide_eq_true_eq, beq_iff_eq, Bool.false_eq_true, beq_eq_false_iff_ne, ne_eq, decide_eq_false_iff_not, false_iff, true_iff, and_true, true_and] at *
    try omega
   ·
    simp only [List.set_cons_zero, List.set_cons_succ]
    refine aops_chunk 3 fun C19 hC19 => ?_
    simp only [bL, ↓bO, bS, bA, bF, ↓reduceIte, Nat.reduceEqDiff, reduceCtorEq, undef, aBin, aBool, tyX]
    refine hC19 _ ?_; clear hC19 C19
    simp only [bL]
    simp only [↓bO, bS, bA, bF, ↓reduceIte, Nat.reduceEqDiff, reduceCtorEq, tyX]
    refine hK15 _ ?_; try clear hK15 K15
    refine AWp_ret ?_
    try simp only [bF, retQ, aRes, tupOf, bS, bA]
    refine Le.of_eq (congrArg (fun b => AV.v (.bool b)) ?_)
    rw [Bool.eq_iff_iff]
    simp only [okN, decide_eq_true_eq, beq_iff_eq, Bool.false_eq_true, beq_eq_false_iff_ne, ne_eq, decide_eq_false_iff_not, false_iff, true_iff, and_true, true_and] at *
    try omega
  ·
   refine AWp_region ?_
   simp only [↓bO, bS, bA, bF, ↓reduceIte, Nat.reduceEqDiff, reduceCtorEq, aBin, tyX]
   refine hK13 _ ?_; try clear hK13 K13
   refine AWp_cond rfl (fun hb18 => ?_) (fun hb18 => ?_)
   ·
    refine AWp_seqK fun K20 hK20 => ?_
    refine AWp_region ?_
    refine aops_chunk 3 fun C21 hC21 => ?_
    simp only [bL, ↓bO, bS, bA, bF, ↓reduceIte, Nat.reduceEqDiff, reduceCtorEq, aField, fo30_1, Nat.reduceAdd, aLoad, ti3, getO, pack, Nat.reduceLeDiff, aBin, tyX]
    refine hC21 _ ?_; clear hC21 C21
    simp only [bL]
    refine aops_chunk 1 fun C22 hC22 => ?_
    simp only [bL, ↓bO, bS, bA, bF, ↓reduceIte, Nat.reduceEqDiff, reduceCtorEq, tyX]
    refine hC22 _ ?_; clear hC22 C22
    simp only [bL]
    refine aops_case 24 rfl (fun hc24 => ?_) (fun hc24 => ?_)
    ·
     simp only [List.set_cons_zero, List.set_cons_succ]
     refine aops_chunk 3 fun C23 hC23 => ?_
     simp only [bL, ↓bO, bS, bA, bF, ↓reduceIte, Nat.reduceEqDiff, reduceCtorEq, undef, aBin, aBool, tyX]
     refine hC23 _ ?_; clear hC23 C23
     simp only [bL]
     simp only [↓bO, bS, bA, bF, ↓reduceIte, Nat.reduceEqDiff, reduceCtorEq, tyX]
     refine hK20 _ ?_; try clear hK20 K20
     refine AWp_ret ?_
     try simp only [bF, retQ, aRes, tupOf, bS, bA]
     refine Le.of_eq (congrArg (fun b => AV.v (.bool b)) ?_)
     rw [Bool.eq_iff_iff]
     simp only [okN, decide_eq_true_eq, beq_iff_eq, Bool.false_eq_true, beq_eq_false_iff_ne, ne_eq, decide_eq_false_iff_not, false_iff, true_iff, and_true, true_and] at *
     try omega
    ·
     simp only [List.set_cons_zero, List.set_cons_succ]
     refine aops_chunk 3 fun C24 hC24 => ?_
     simp only [bL, ↓bO, bS, bA, bF, ↓reduceIte, Nat.reduceEqDiff, reduceCtorEq, undef, aBin, aBool, tyX]
     refine hC24 _ ?_; clear hC24 C24
     simp only [bL]
     simp only [↓bO, bS, bA, bF, ↓reduceIte, Nat.reduceEqDiff, reduceCtorEq, tyX]
     refine hK20 _ ?_; try clear hK20 K20
     refine AWp_ret ?_
     try simp only [bF, retQ, aRes, tupOf, bS, bA]
     refine Le.of_eq (congrArg (fun b => AV.v (.bool b)) ?_)
     rw [Bool.eq_iff_iff]
     simp only [okN, decide_eq_true_eq, beq_iff_eq, Bool.false_eq_true, beq_eq_false_iff_ne, ne_eq, decide_eq_false_iff_not, false_iff, true_iff, and_true, true_and] at *
     try omega
   ·
    refine AWp_seqK fun K25 hK25 => ?_
    refine AWp_region ?_
    simp only [↓bO, bS, bA, bF, ↓reduceIte, Nat.reduceEqDiff, reduceCtorEq, aBin, tyX]
    refine hK25 _ ?_; try clear hK25 K25
    refine AWp_cond rfl (fun hb28 => ?_) (fun hb28 => ?_)
    ·
     refine AWp_seqK fun K26 hK26 => ?_
     refine AWp_region ?_
     refine aops_chunk 3 fun C27 hC27 => ?_
     simp only [bL, ↓bO, bS, bA, bF, ↓reduceIte, Nat.reduceEqDiff, reduceCtorEq, aField, fo30_1, Nat.reduceAdd, aLoad, ti3, getO, pack, Nat.reduceLeDiff, aBin, tyX]
     refine hC27 _ ?_; clear hC27 C27
     simp only [bL]
     refine aops_chunk 1 fun C28 hC28 => ?_
     simp only [bL, ↓bO, bS, bA, bF, ↓reduceIte, Nat.reduceEqDiff, reduceCtorEq, tyX]
     refine hC28 _ ?_; clear hC28 C28
     simp only [bL]
     refine aops_case 33 rfl (fun hc33 => ?_) (fun hc33 => ?_)
     ·
      simp only [List.set_cons_zero, List.set_cons_succ]
      refine aops_chunk 3 fun C29 hC29 => ?_
      simp only [bL, ↓bO, bS, bA, bF, ↓reduceIte, Nat.reduceEqDiff, reduceCtorEq, undef, aBin, aBool, tyX]
      refine hC29 _ ?_; clear hC29 C29
      simp only [bL]
      simp only [↓bO, bS, bA, bF, ↓reduceIte, Nat.reduceEqDiff, reduceCtorEq, tyX]
      refine hK26 _ ?_; try clear hK26 K26
      refine AWp_ret ?_
      try simp only [bF, retQ, aRes, tupOf, bS, bA]
      refine Le.of_eq (congrArg (fun b => AV.v (.bool b)) ?_)
      rw [Bool.eq_iff_iff]
      simp only [okN, decide_eq_true_eq, beq_iff_eq, Bool.false_eq_true, beq_eq_false_iff_ne, ne_eq, decide_eq_false_iff_not, false_iff, true_iff, and_true, true_and] at *
      try omega
     ·
      simp only [List.set_cons_zero, List.set_cons_succ]
      refine aops_chunk 3 fun C30 hC30 => ?_
      simp only [bL, ↓bO, bS, bA, bF, ↓reduceIte, Nat.reduceEqDiff, reduceCtorEq, undef, aBin, aBool, tyX]
      refine hC30 _ ?_; clear hC30 C30
      simp only [bL]
      simp only [↓bO, bS, bA, bF, ↓reduceIte, Nat.reduceEqDiff, reduceCtorEq, tyX]
      refine hK26 _ ?_; try clear hK26 K26
      refine AWp_ret ?_
      try simp only [bF, retQ, aRes, tupOf, bS, bA]
      refine Le.of_eq (congrArg (fun b => AV.v (.bool b)) ?_)
      rw [Bool.eq_iff_iff]
      simp only [okN, decide_eq_true_eq, beq_iff_eq, Bool.false_eq_true, beq_eq_false_iff_ne, ne_eq, decide_eq_false_iff_not, false_iff, true_iff, and_true, true_and] at *
      try omega
    ·
     refine AWp_seqK fun K31 hK31 => ?_
     refine AWp_region ?_
     simp only [↓bO, bS, bA, bF, ↓reduceIte, Nat.reduceEqDiff, reduceCtorEq, aBin, tyX]
     refine hK31 _ ?_; try clear hK31 K31
     refine AWp_cond rfl (fun hb37 => ?_) (fun hb37 => ?_)
     ·
      refine AWp_seqK fun K32 hK32 => ?_
      refine AWp_region ?_
      refine aops_chunk 3 fun C33 hC33 => ?_
      simp only [bL, ↓bO, bS, bA, bF, ↓reduceIte, Nat.reduceEqDiff, reduceCtorEq, aField, fo30_1, Nat.reduceAdd, aLoad, ti3, getO, pack, Nat.reduceLeDiff, aBin, tyX]
      refine hC33 _ ?_; clear hC33 C33
      simp only [bL]
      refine aops_chunk 1 fun C34 hC34 => ?_
      simp only [bL, ↓bO, bS, bA, bF, ↓reduceIte, Nat.reduceEqDiff, reduceCtorEq, tyX]
      refine hC34 _ ?_; clear hC34 C34
      simp only [bL]
      refine aops_case 42 rfl (fun hc42 => ?_) (fun hc42 => ?_)
      ·
       simp only [List.set_cons_zero, List.set_cons_succ]
       refine aops_chunk 3 fun C35 hC35 => ?_
       simp only [bL, ↓bO, bS, bA, bF, ↓reduceIte, Nat.reduceEqDiff, reduceCtorEq, undef, aBin, aBool, tyX]
       refine hC35 _ ?_; clear hC35 C35
       simp only [bL]
       refine aops_chunk 1 fun C36 hC36 => ?_
       simp only [bL, ↓bO, bS, bA, bF, ↓reduceIte, Nat.reduceEqDiff, reduceCtorEq, tyX]
       refine hC36 _ ?_; clear hC36 C36
       simp only [bL]
       refine aops_case 46 rfl (fun hc46 => ?_) (fun hc46 => ?_)
       ·
        simp only [List.set_cons_zero, List.set_cons_succ]
        refine aops_chunk 3 fun C37 hC37 => ?_
        simp only [bL, ↓bO, bS, bA, bF, ↓reduceIte, Nat.reduceEqDiff, reduceCtorEq, undef, aBin, aBool, tyX]
        refine hC37 _ ?_; clear hC37 C37
        simp only [bL]
        simp only [↓bO, bS, bA, bF, ↓reduceIte, Nat.reduceEqDiff, reduceCtorEq, tyX]
        refine hK32 _ ?_; try clear hK32 K32
        refine AWp_ret ?_
        try simp only [bF, retQ, aRes, tupOf, bS, bA]
        refine Le.of_eq (congrArg (fun b => AV.v (.bool b)) ?_)
        rw [Bool.eq_iff_iff]
        simp only [okN, decide_eq_true_eq, beq_iff_eq, Bool.false_eq_true, beq_eq_false_iff_ne, ne_eq, decide_eq_false_iff_not, false_iff, true_iff, and_true, true_and] at *
        try omega
       ·
        simp only [List.set_cons_zero, List.set_cons_succ]
        refine aops_chunk 3 fun C38 hC38 => ?_
        simp only [bL, ↓bO, bS, bA, bF, ↓reduceIte, Nat.reduceEqDiff, reduceCtorEq, undef, aBin, aBool, tyX]
        refine hC38 _ ?_; clear hC38 C38
        simp only [bL]
        simp only [↓bO, bS, bA, bF, ↓reduceIte, Nat.reduceEqDiff, reduceCtorEq, tyX]
        refine hK32 _ ?_; try clear hK32 K32
        refine AWp_ret ?_
        try simp only [bF, retQ, aRes, tupOf, bS, bA]
        refine Le.of_eq (congrArg (fun b => AV.v (.bool b)) ?_)
        rw [Bool.eq_iff_iff]
        simp only [okN, decide_eq_true_eq, beq_iff_eq, Bool.false_eq_true, beq_eq_false_iff_ne, ne_eq, decide_eq_false_iff_not, false_iff, true_iff, and_true, true_and] at *
        try omega
      ·
       simp only [List.set_cons_zero, List.set_cons_succ]
       refine aops_chunk 3 fun C39 hC39 => ?_
       simp only [bL, ↓bO, bS, bA, bF, ↓reduceIte, Nat.reduceEqDiff, reduceCtorEq, undef, aBin, aBool, tyX]
       refine hC39 _ ?_; clear hC39 C39
       simp only [bL]
       refine aops_chunk 3 fun C40 hC40 => ?_
       simp only [bL, ↓bO, bS, bA, bF, ↓reduceIte, Nat.reduceEqDiff, reduceCtorEq, undef, aBin, tyX]
       refine hC40 _ ?_; clear hC40 C40
       simp only [bL]
       simp only [↓bO, bS, bA, bF, ↓reduceIte, Nat.reduceEqDiff, reduceCtorEq, aBool, tyX]
       refine hK32 _ ?_; try clear hK32 K32
       refine AWp_ret ?_
       try simp only [bF, retQ, aRes, tupOf, bS, bA]
       refine Le.of_eq (congrArg (fun b => AV.v (.bool b)) ?_)
       rw [Bool.eq_iff_iff]
       simp only [okN, decide_eq_true_eq, beq_iff_eq, Bool.false_eq_true, beq_eq_false_iff_ne, ne_eq, decide_eq_false_iff_not, false_iff, true_iff, and_true, true_and] at *
       try omega
     ·
      refine AWp_skip ?_
      try simp only [bF]
      refine hK4 _ ?_; try clear hK4 K4
      refine AWp_seqK fun K41 hK41 => ?_
      refine AWp_region ?_
      simp only [↓bO, bS, bA, bF, ↓reduceIte, Nat.reduceEqDiff, reduceCtorEq, tyX]
      refine hK41 _ ?_; try clear hK41 K41
      refine AWp_ret ?_
      try simp only [bF, retQ, aRes, tupOf, bS, bA]
      refine Le.of_eq (congrArg (fun b => AV.v (.bool b)) ?_)
      rw [Bool.eq_iff_iff]
      simp only [okN, decide_eq_true_eq, beq_iff_eq, Bool.false_eq_true, beq_eq_false_iff_ne, ne_eq, decide_eq_false_iff_not, false_iff, true_iff, and_true, true_and] at *
      try omega
theorem all_not_of {α : Type} {f : α → Bool} {ps : List α} {i : Nat} {p : α} (hp : ps[i]? = some p) (h : f p = true) : ps.any f = true := List.any_eq_true.2 ⟨p, List.mem_of_getElem? hp, h⟩
theorem any_false_of {α : Type} {f : α → Bool} {ps : List α} (h : ∀ (i : Nat) (p : α), i < ps.length → ps[i]? = some p → f p = false) : ps.any f = false := by
  rw [← Bool.not_eq_true, List.any_eq_true]
  rintro ⟨p, hp, hf⟩
  obtain ⟨i, hi, e⟩ := List.mem_iff_getElem.1 hp
  rw [h i p hi (by rw [List.getElem?_eq_getElem hi, e])] at hf; cases hf
def idxI {α : Type} (g : α → Bool) (l : List α) : Int := if l.any g then (l.findIdx g : Int) else -1
theorem idxI_some {α : Type} {g : α → Bool} {l : List α} {i : Nat} {p : α} (hp : l[i]? = some p) (h : g p = true) (hb : ∀ (j : Nat) (q : α), j < i → l[j]? = some q → g q = false) : idxI g l = (i : Int) := by
  have hi : i < l.length := (List.getElem?_eq_some_iff.1 hp).1
  have e : l[i] = p := (List.getElem?_eq_some_iff.1 hp).2
  rw [idxI, if_pos (all_not_of hp h)]
  congr 1
  refine List.findIdx_eq hi |>.2 ⟨by rw [e]; exact h, fun j hj => ?_⟩
  exact hb j _ hj (List.getElem?_eq_getElem (by omega))
theorem idxI_none {α : Type} {g : α → Bool} {l : List α} (hb : ∀ (j : Nat) (q : α), j < l.length → l[j]? = some q → g q = false) : idxI g l = -1 := by
  rw [idxI, any_false_of hb]; rfl
theorem idxI_ge {α : Type} {g : α → Bool} {l : List α} : decide (idxI g l ≥ 0) = l.any g := by
  unfold idxI
  split
  · rename_i h; rw [h]; simp
  · rename_i h; simp at h; simp; exact h
theorem IndexFuncTy_pure (ps : List Ty) (g : Nat) (f : Ty → Bool) (hf : ∀ p ∈ ps, APure Try.prog g [.agg p.cells] (.v (.bool (f p)))) : APure Try.prog 96 [.sl 3 (ps.map Ty.cells), .clo g []] (.v (.int .i64 (idxI f ps))) := by
 refine APure.mkL (.cons (Ty.dataSl ps) (.cons (.clo (fun _ h => by cases h)) .nil)) (.v _) ?_
 refine ACalls_intro Try.func96 (by kernel_rfl) rfl (by rw [Try.ntmps96]; simp) (fun hm => ?_)
 simp only [Try.ntmps96, Try.results96, List.length_cons, List.length_nil, Nat.reduceAdd, Nat.reduceSub, List.replicate_succ, List.replicate_zero, List.cons_append, List.nil_append]
 have hm1 := hm.len (sz := 3) (xs := ps.map Ty.cells) (by simp)
 rw [List.length_map] at hm1
 have hm2 : ∀ i : Nat, i < ps.length → IntKind.i64.wrap ((i : Int) + 1) = (i : Int) + 1 := fun i hi => wrap_in (by omega) (by simp only [maxLen] at hm1; omega)
 refine AWp_seqK fun K1 hK1 => ?_
 refine AWp_region ?_
 simp only [↓bO, bS, bA, bF, ↓reduceIte, Nat.reduceEqDiff, reduceCtorEq, tyX]
 refine hK1 _ ?_; try clear hK1 K1
 refine AWp_seqK fun K2 hK2 => ?_
 refine AWp_seqK fun K3 hK3 => ?_
 refine AWp_region ?_
 simp only [↓bO, bS, bA, bF, ↓reduceIte, Nat.reduceEqDiff, reduceCtorEq, getO, aLenX, aLen, ln28, List.length_map, tyX]
 refine hK3 _ ?_; try clear hK3 K3
 refine AWp_block ?_
 refine AWp_loopM (σ := Nat) [true, true, false, false, false, false, false, true, true, false, false, false, false, false, false, false, false, false, false] (fun s => s ≤ ps.length ∧ ∀ (i : Nat) (p : Ty), i < s → ps[i]? = some p → f p = false) (fun s => [(8, .v (.int .i64 (s : Int)))]) (fun s => []) (fun s => ps.length - s) 0 (⟨by omega, fun i p hi => by omega⟩) ?_ (fun s hs => ?_)
 ·
  simp only [maskL, setsL, putsO, putO, bA, Nat.reduceEqDiff, ↓reduceIte]
  exact Weak.mk (by simp only [LeL, Le.refl, Le.any, Le.slNil, and_self, Int.natCast_add, Int.cast_ofNat_Int, Int.natCast_one]) (fun _ _ h => h) rfl rfl
 simp only [maskL, setsL, putsO, putO, bA, Nat.reduceEqDiff, ↓reduceIte]
 refine AWp_seqK fun K4 hK4 => ?_
 refine AWp_region ?_
 simp only [↓bO, bS, bA, bF, ↓reduceIte, Nat.reduceEqDiff, reduceCtorEq, aBin, tyX]
 refine hK4 _ ?_; try clear hK4 K4
 refine AWp_seqK fun K5 hK5 => ?_
 refine AWp_cond rfl (fun hb9 => ?_) (fun hb9 => ?_)
 ·
  have hk : s < ps.length := by simpa using hb9
  obtain ⟨p, hp⟩ : ∃ p, ps[s]? = some p := ⟨_, List.getElem?_eq_getElem hk⟩
  have hw := hm2 s hk
  refine AWp_skip ?_
  try simp only [bF]
  refine hK5 _ ?_; try clear hK5 K5
  refine AWp_seqK fun K6 hK6 => ?_
  refine AWp_block ?_
  refine AWp_seqK fun K7 hK7 => ?_
  refine AWp_region ?_
  simp only [↓bO, bS, bA, bF, ↓reduceIte, Nat.reduceEqDiff, reduceCtorEq, tyX, hk, gM hp, Int.natCast_add, Int.natCast_one, hw]
  refine hK7 _ ?_; try clear hK7 K7
  refine AWp_seqK fun K8 hK8 => ?_
  refine AWp_region ?_
  refine aops_chunk 4 fun C9 hC9 => ?_
  simp only [bL, ↓bO, bS, bA, bF, ↓reduceIte, Nat.reduceEqDiff, reduceCtorEq, getO, aIndexA, es28, Int.natCast_nonneg, Int.ofNat_lt, Int.toNat_natCast, List.length_map, Int.le_refl, Int.toNat_zero, Int.toNat_one, Int.reduceLE, tyX, hk, gM hp, Int.natCast_add, Int.natCast_one, hw]
  refine hC9 _ ?_; clear hC9 C9
  simp only [bL]
  refine aops_chunk 1 fun C10 hC10 => ?_
  simp only [bL, ↓bO, bS, bA, bF, ↓reduceIte, Nat.reduceEqDiff, reduceCtorEq, aLoad, ti30, getO, pack, Nat.reduceAdd, Nat.reduceLeDiff, tyX, hk, gM hp, Int.natCast_add, Int.natCast_one, hw]
  refine hC10 _ ?_; clear hC10 C10
  simp only [bL]
  simp only [↓bO, bS, bA, bF, ↓reduceIte, Nat.reduceEqDiff, reduceCtorEq, aCallV, bL, tyX, hk, gM hp, Int.natCast_add, Int.natCast_one, hw]
  refine APure.call (hf p (List.mem_of_getElem? hp)) ?_
  try simp only [bS, bA, bF]
  refine hK8 _ ?_; try clear hK8 K8
  refine AWp_cond rfl (fun hb16 => ?_) (fun hb16 => ?_)
  ·
   refine AWp_seqK fun K11 hK11 => ?_
   refine AWp_region ?_
   simp only [↓bO, bS, bA, bF, ↓reduceIte, Nat.reduceEqDiff, reduceCtorEq, tyX, hk, gM hp, Int.natCast_add, Int.natCast_one, hw]
   refine hK11 _ ?_; try clear hK11 K11
   refine AWp_ret ?_
   try simp only [bF, retQ, aRes, tupOf, bS, bA]
   refine Le.of_eq (congrArg (fun n => AV.v (.int .i64 n)) ?_)
   first | (rw [idxI_some hp (by exact hb16) hs.2]; done) | (rw [idxI_none (fun i p hi h1 => hs.2 i p (by omega) h1)]; done)
  ·
   refine AWp_skip ?_
   try simp only [bF]
   refine hK6 _ ?_; try clear hK6 K6
   refine AWp_region ?_
   simp only [↓bO, bS, bA, bF, ↓reduceIte, Nat.reduceEqDiff, reduceCtorEq, aBin, tyX, hk, gM hp, Int.natCast_add, Int.natCast_one, hw]
   refine ⟨(s + 1), ⟨by omega, fun i p' hi h1 => (by rcases Nat.lt_or_ge i s with h3 | h3 <;> first | exact hs.2 i p' h3 h1 | (obtain rfl : i = s := (by omega); rw [hp] at h1; cases h1; exact hb16))⟩, by omega, ?_⟩
   simp only [maskL, setsL, putsO, putO, bA, Nat.reduceEqDiff, ↓reduceIte, hk, gM hp, Int.natCast_add, Int.natCast_one, hw]
   exact Weak.mk (by simp only [LeL, Le.refl, Le.any, Le.slNil, and_self, Int.natCast_add, Int.cast_ofNat_Int, Int.natCast_one]) (fun _ _ h => h) rfl rfl
 ·
  have hk : s = ps.length := by have := hs.1; simp at hb9; omega
  refine AWp_exit ?_
  simp only [bF, bA, Nat.reduceEqDiff, ↓reduceIte]
  refine hK2 _ ?_; try clear hK2 K2
  refine AWp_seqK fun K12 hK12 => ?_
  refine AWp_region ?_
  simp only [↓bO, bS, bA, bF, ↓reduceIte, Nat.reduceEqDiff, reduceCtorEq, tyX]
  refine hK12 _ ?_; try clear hK12 K12
  refine AWp_ret ?_
  try simp only [bF, retQ, aRes, tupOf, bS, bA]
  refine Le.of_eq (congrArg (fun n => AV.v (.int .i64 n)) ?_)
  first | (rw [idxI_some hp (by exact hb16) hs.2]; done) | (rw [idxI_none (fun i p hi h1 => hs.2 i p (by omega) h1)]; done)
theorem ContainsFuncTy_pure (ps : List Ty) (g : Nat) (f : Ty → Bool) (hf : ∀ p ∈ ps, APure Try.prog g [.agg p.cells] (.v (.bool (f p)))) : APure Try.prog 79 [.sl 3 (ps.map Ty.cells), .clo g []] (.v (.bool (ps.any f))) := by
 refine APure.mkL (.cons (Ty.dataSl ps) (.cons (.clo (fun _ h => by cases h)) .nil)) (.v _) ?_
 refine ACalls_intro Try.func79 (by kernel_rfl) rfl (by rw [Try.ntmps79]; simp) (fun hm => ?_)
 simp only [Try.ntmps79, Try.results79, List.length_cons, List.length_nil, Nat.reduceAdd, Nat.reduceSub, List.replicate_succ, List.replicate_zero, List.cons_append, List.nil_append]
 refine AWp_seqK fun K1 hK1 => ?_
 refine AWp_region ?_
 simp only [↓bO, bS, bA, bF, ↓reduceIte, Nat.reduceEqDiff, reduceCtorEq, idxI_ge]
 refine hK1 _ ?_; try clear hK1 K1
 refine AWp_seqK fun K2 hK2 => ?_
 refine AWp_region ?_
 refine aops_chunk 2 fun C3 hC3 => ?_
 simp only [bL, ↓bO, bS, bA, bF, ↓reduceIte, Nat.reduceEqDiff, reduceCtorEq, idxI_ge]
 refine hC3 _ ?_; clear hC3 C3
 simp only [bL]
 refine aops_chunk 1 fun C4 hC4 => ?_
 simp only [bL, ↓bO, bS, bA, bF, ↓reduceIte, Nat.reduceEqDiff, reduceCtorEq, aCallV, idxI_ge]
 refine APure.call (IndexFuncTy_pure ps g f hf) ?_
 try simp only [bS, bA, bF]
 refine hC4 _ ?_; clear hC4 C4
 simp only [bL]
 simp only [↓bO, bS, bA, bF, ↓reduceIte, Nat.reduceEqDiff, reduceCtorEq, aBin, idxI_ge]
 refine hK2 _ ?_; try clear hK2 K2
 refine AWp_ret ?_
 try simp only [bF, retQ, aRes, tupOf, bS, bA]
 exact Le.refl _
theorem Right1_pure {p : Ty} (h : APure Try.prog 51 [.agg p.cells] (.v (.bool p.right))) : APure Try.prog 80 [.agg p.cells] (.v (.bool (!p.right))) := by
 refine APure.mkL (.cons p.dataAgg .nil) (.v _) ?_
 refine ACalls_intro Try.func80 (by kernel_rfl) rfl (by rw [Try.ntmps80]; simp) (fun hm => ?_)
 simp only [Try.ntmps80, Try.results80, List.length_cons, List.length_nil, Nat.reduceAdd, Nat.reduceSub, List.replicate_succ, List.replicate_zero, List.cons_append, List.nil_append]
 refine AWp_seqK fun K1 hK1 => ?_
 refine AWp_region ?_
 simp only [↓bO, bS, bA, bF, ↓reduceIte, Nat.reduceEqDiff, reduceCtorEq, tyX]
 refine hK1 _ ?_; try clear hK1 K1
 refine AWp_seqK fun K2 hK2 => ?_
 refine AWp_region ?_
 refine aops_chunk 1 fun C3 hC3 => ?_
 simp only [bL, ↓bO, bS, bA, bF, ↓reduceIte, Nat.reduceEqDiff, reduceCtorEq, aLoad, ti30, getO, pack, Nat.reduceAdd, Nat.reduceLeDiff, tyX]
 refine hC3 _ ?_; clear hC3 C3
 simp only [bL]
 refine aops_chunk 1 fun C4 hC4 => ?_
 simp only [bL, ↓bO, bS, bA, bF, ↓reduceIte, Nat.reduceEqDiff, reduceCtorEq, aCallV, tyX]
 refine APure.call (h) ?_
 try simp only [bS, bA, bF]
 refine hC4 _ ?_; clear hC4 C4
 simp only [bL]
 simp only [↓bO, bS, bA, bF, ↓reduceIte, Nat.reduceEqDiff, reduceCtorEq, aUn, tyX]
 refine hK2 _ ?_; try clear hK2 K2
 refine AWp_ret ?_
 try simp only [bF, retQ, aRes, tupOf, bS, bA]
 exact Le.refl _
theorem Right_pure : ∀ (T : Ty), APure Try.prog 51 [.agg T.cells] (.v (.bool T.right)) := by
 refine Ty.ind fun T ih => ?_
 refine APure.mkL (.cons T.dataAgg .nil) (.v _) ?_
 refine ACalls_intro Try.func51 (by kernel_rfl) rfl (by rw [Try.ntmps51]; simp) (fun hm => ?_)
 simp only [Try.ntmps51, Try.results51, List.length_cons, List.length_nil, Nat.reduceAdd, Nat.reduceSub, List.replicate_succ, List.replicate_zero, List.cons_append, List.nil_append]
 refine AWp_seqK fun K1 hK1 => ?_
 refine AWp_region ?_
 simp only [↓bO, bS, bA, bF, ↓reduceIte, Nat.reduceEqDiff, reduceCtorEq, tyX]
 refine hK1 _ ?_; try clear hK1 K1
 refine AWp_seqK fun K2 hK2 => ?_
 refine AWp_region ?_
 refine aops_chunk 1 fun C3 hC3 => ?_
 simp only [bL, ↓bO, bS, bA, bF, ↓reduceIte, Nat.reduceEqDiff, reduceCtorEq, aLoad, ti30, getO, pack, Nat.reduceAdd, Nat.reduceLeDiff, tyX]
 refine hC3 _ ?_; clear hC3 C3
 simp only [bL]
 refine aops_chunk 1 fun C4 hC4 => ?_
 simp only [bL, ↓bO, bS, bA, bF, ↓reduceIte, Nat.reduceEqDiff, reduceCtorEq, aCallV, tyX]
 refine APure.call (plain_pure T) ?_
 try simp only [bS, bA, bF]
 refine hC4 _ ?_; clear hC4 C4
 simp only [bL]
 refine aops_chunk 1 fun C5 hC5 => ?_
 simp only [bL, ↓bO, bS, bA, bF, ↓reduceIte, Nat.reduceEqDiff, reduceCtorEq, tyX]
 refine hC5 _ ?_; clear hC5 C5
 simp only [bL]
 refine aops_case 5 rfl (fun hc5 => ?_) (fun hc5 => ?_)
 ·
  simp only [List.set_cons_zero, List.set_cons_succ]
  refine aops_chunk 2 fun C6 hC6 => ?_
  simp only [bL, ↓bO, bS, bA, bF, ↓reduceIte, Nat.reduceEqDiff, reduceCtorEq, undef, aField, fo30_2, Nat.reduceAdd, aLoad, ti28, getO, pack, Nat.reduceLeDiff, tyX]
  refine hC6 _ ?_; clear hC6 C6
  simp only [bL]
  refine aops_chunk 1 fun C7 hC7 => ?_
  simp only [bL, ↓bO, bS, bA, bF, ↓reduceIte, Nat.reduceEqDiff, reduceCtorEq, undef, aCallV, tyX]
  refine APure.call (ContainsFuncTy_pure T.ps 80 (fun p => !p.right) (fun p hp => Right1_pure (ih p hp))) ?_
  try simp only [bS, bA, bF]
  refine hC7 _ ?_; clear hC7 C7
  simp only [bL]
  simp only [↓bO, bS, bA, bF, ↓reduceIte, Nat.reduceEqDiff, reduceCtorEq, bL, undef, aUn, aBool, tyX]
  refine hK2 _ ?_; try clear hK2 K2
  refine AWp_ret ?_
  try simp only [bF, retQ, aRes, tupOf, bS, bA]
  refine Le.of_eq (congrArg (fun b => AV.v (.bool b)) ?_)
  rw [Ty.right_eq]
  first | (simp only [hc5]; rfl) | (simp only [hc5, Bool.true_and]; simp [List.not_any_eq_all_not])
 ·
  simp only [List.set_cons_zero, List.set_cons_succ]
  refine aops_chunk 4 fun C8 hC8 => ?_
  simp only [bL, ↓bO, bS, bA, bF, ↓reduceIte, Nat.reduceEqDiff, reduceCtorEq, undef, aField, fo30_2, Nat.reduceAdd, aLoad, ti28, getO, pack, Nat.reduceLeDiff, aCallV, aUn, tyX]
  refine hC8 _ ?_; clear hC8 C8
  simp only [bL]
  simp only [↓bO, bS, bA, bF, ↓reduceIte, Nat.reduceEqDiff, reduceCtorEq, aBool, tyX]
  refine hK2 _ ?_; try clear hK2 K2
  refine AWp_ret ?_
  try simp only [bF, retQ, aRes, tupOf, bS, bA]
  refine Le.of_eq (congrArg (fun b => AV.v (.bool b)) ?_)
  rw [Ty.right_eq]
  first | (simp only [hc5]; rfl) | (simp only [hc5, Bool.true_and]; simp [List.not_any_eq_all_not])
end Go.Proofs.Ytjjjckjebkmnjaa
namespace Go.Proofs.Ytjjjckjebkmnjaa
open Go Go.RowKit
set_option maxRecDepth 100000
set_option maxHeartbeats 1000000
set_option linter.unusedSimpArgs false
set_option linter.unusedVariables false
attribute [local irreducible] aops dRun
mutual
/-- a type whose variables have other numbers -/
def Ty.mapV (f : Int → Int) : Ty → Ty
  | .mk k n ps => .mk k (if k = 1 then f n else n) (Ty.mapVL f ps)
def Ty.mapVL (f : Int → Int) : List Ty → List Ty
  | [] => []
  | p :: ps => Ty.mapV f p :: Ty.mapVL f ps
end
theorem Ty.mapVL_eq (f : Int → Int) : ∀ ps, Ty.mapVL f ps = ps.map (Ty.mapV f)
  | [] => by simp [Ty.mapVL]
  | p :: ps => by simp [Ty.mapVL, Ty.mapVL_eq f ps]
theorem Ty.mapV_eq (f : Int → Int) (t : Ty) : t.mapV f = .mk t.k (if t.k = 1 then f t.n else t.n) (t.ps.map (Ty.mapV f)) := by
  cases t; rw [Ty.mapV, Ty.mapVL_eq]; rfl
theorem Ty.eta (t : Ty) : Ty.mk t.k t.n t.ps = t := by cases t; rfl
theorem Ty.mapV_id : ∀ t : Ty, t.mapV (fun n => n) = t := by
  refine Ty.ind fun t ih => ?_
  rw [Ty.mapV_eq]
  have e : t.ps.map (Ty.mapV fun n => n) = t.ps := by conv => rhs; rw [← List.map_id t.ps]
                                                      exact List.map_congr_left ih
  rw [e]; simp [Ty.eta]
mutual
def Ty.cnt : Ty → Nat
  | .mk _ _ ps => 1 + Ty.cntL ps
def Ty.cntL : List Ty → Nat
  | [] => 0
  | p :: ps => Ty.cnt p + Ty.cntL ps
end
theorem Ty.cnt_eq (t : Ty) : t.cnt = 1 + Ty.cntL t.ps := by cases t; simp [Ty.cnt, Ty.ps]
theorem Ty.cntL_append : ∀ (ps qs : List Ty), Ty.cntL (ps ++ qs) = Ty.cntL ps + Ty.cntL qs
  | [], qs => by simp [Ty.cntL]
  | p :: ps, qs => by simp [Ty.cntL, Ty.cntL_append ps qs]; omega
theorem Ty.cntL_step {ps : List Ty} {s : Nat} {p : Ty} (hp : ps[s]? = some p) : Ty.cntL (ps.take s) + p.cnt ≤ Ty.cntL ps := by
  have h1 : Ty.cntL (ps.take (s + 1)) = Ty.cntL (ps.take s) + p.cnt := by rw [List.take_add_one, hp, Ty.cntL_append]; simp [Ty.cntL]
  have h2 : Ty.cntL ps = Ty.cntL (ps.take (s + 1)) + Ty.cntL (ps.drop (s + 1)) := by rw [← Ty.cntL_append, List.take_append_drop]
  omega
theorem Ty.cntL_len : ∀ ps, ps.length ≤ Ty.cntL ps
  | [] => by simp
  | p :: ps => by
    have := Ty.cntL_len ps
    have h2 : 1 ≤ p.cnt := by rw [Ty.cnt_eq]; omega
    simp [Ty.cntL]; omega
theorem take_map_step {α β : Type} (f : α → β) {ps : List α} {s : Nat} {p : α} (hp : ps[s]? = some p) : (ps.take (s + 1)).map f = (ps.take s).map f ++ [f p] := by
  rw [List.take_add_one, hp]; simp
theorem Ty.cnt_mem {p : Ty} : ∀ {ps : List Ty}, p ∈ ps → p.cnt ≤ Ty.cntL ps
  | q :: ps, h => by
    simp only [Ty.cntL]
    rcases List.mem_cons.1 h with rfl | h
    · omega
    · have := Ty.cnt_mem h; omega
theorem TVar_pure (n : Int) : APure Try.prog 43 [.v (.int .i64 n)] (.agg (Ty.mk 1 n []).cells) := by
 refine APure.mkL (.cons (.v _) .nil) ((Ty.dataAgg _)) ?_
 refine ACalls_intro Try.func43 (by kernel_rfl) rfl (by rw [Try.ntmps43]; simp) (fun hm => ?_)
 simp only [Try.ntmps43, Try.results43, List.length_cons, List.length_nil, Nat.reduceAdd, Nat.reduceSub, List.replicate_succ, List.replicate_zero, List.cons_append, List.nil_append]
 refine AWp_seqK fun K1 hK1 => ?_
 refine AWp_region ?_
 simp only [↓bO, bS, bA, bF, ↓reduceIte, Nat.reduceEqDiff, reduceCtorEq, zc30, bL, tyX]
 refine hK1 _ ?_; try clear hK1 K1
 refine AWp_seqK fun K2 hK2 => ?_
 refine AWp_region ?_
 simp only [↓bO, bS, bA, bF, ↓reduceIte, Nat.reduceEqDiff, reduceCtorEq, aBuild, zc30, pc30, aFill, splice, bL, Nat.reduceAdd, Nat.reduceLeDiff, aStore, ti30, getO, putO, tyX]
 refine hK2 _ ?_; try clear hK2 K2
 refine AWp_ret ?_
 try simp only [bF, retQ, aRes, tupOf, bS, bA, aLoad, getO, pack, bL, Nat.reduceAdd, Nat.reduceLeDiff, Nat.reduceEqDiff, ↓reduceIte, ti30, tyX]
 refine Le.agg ?_
 rw [Ty.cells_eq]
 exact ⟨.refl _, .refl _, Le.slNil 3, trivial⟩
theorem change_pure : ∀ (T : Ty) (g : Nat) (caps : List AV) (φ : Int → Int) (hd : DataL caps) (hφ : ∀ n : Int, APure Try.prog g (.v (.int .i64 n) :: caps) (.v (.int .i64 (φ n)))) (hT : T.cnt ≤ 1099511627776), APure Try.prog 91 [.agg T.cells, .clo g caps] (.agg (T.mapV φ).cells) := by
 refine Ty.ind fun T ih => ?_
 intro g caps φ hd hφ hT
 refine APure.mkL (.cons T.dataAgg (.cons (.clo hd) .nil)) ((Ty.dataAgg _)) ?_
 refine ACalls_intro Try.func91 (by kernel_rfl) rfl (by rw [Try.ntmps91]; simp) (fun hm => ?_)
 simp only [Try.ntmps91, Try.results91, List.length_cons, List.length_nil, Nat.reduceAdd, Nat.reduceSub, List.replicate_succ, List.replicate_zero, List.cons_append, List.nil_append]
 have hm1 := hm.wide (t := T) (by simp)
 have hcn := T.cnt_eq
 have hcl := Ty.cntL_len T.ps
 simp only [Ty.cells_eq T, List.cons_append, List.nil_append]
 refine AWp_seqK fun K1 hK1 => ?_
 refine AWp_region ?_
 simp only [↓bO, bS, bA, bF, ↓reduceIte, Nat.reduceEqDiff, reduceCtorEq, zc30, bL, tyX]
 refine hK1 _ ?_; try clear hK1 K1
 refine AWp_joinM [false, true, true, false, true, false, false, false, false, false, false, false, false, false, false, false, false, false, false, false, false, false, false, false, false, false, false, false, false, false, false, false, false] ([]) ([(0, .cells 30 [.v (.int .i64 T.k), .v (.int .i64 (if T.k = 1 then φ T.n else T.n)), .sl 3 (T.ps.map Ty.cells)])]) ?_ ?_
 ·
  refine AWp_seqK fun K2 hK2 => ?_
  refine AWp_region ?_
  simp only [↓bO, bS, bA, bF, ↓reduceIte, Nat.reduceEqDiff, reduceCtorEq, aField, fo30_0, bL, Nat.reduceAdd, aLoad, ti3, getO, pack, Nat.reduceLeDiff, aBin, tyX]
  refine hK2 _ ?_; try clear hK2 K2
  refine AWp_cond rfl (fun hb10 => ?_) (fun hb10 => ?_)
  ·
   refine AWp_region ?_
   refine aops_chunk 3 fun C3 hC3 => ?_
   simp only [bL, ↓bO, bS, bA, bF, ↓reduceIte, Nat.reduceEqDiff, reduceCtorEq, aField, fo30_1, Nat.reduceAdd, aLoad, ti3, getO, pack, Nat.reduceLeDiff, tyX]
   refine hC3 _ ?_; clear hC3 C3
   simp only [bL]
   refine aops_chunk 1 fun C4 hC4 => ?_
   simp only [bL, ↓bO, bS, bA, bF, ↓reduceIte, Nat.reduceEqDiff, reduceCtorEq, aCallV, tyX]
   refine APure.call ((hφ T.n)) ?_
   try simp only [bS, bA, bF]
   refine hC4 _ ?_; clear hC4 C4
   simp only [bL]
   simp only [↓bO, bS, bA, bF, ↓reduceIte, Nat.reduceEqDiff, reduceCtorEq, aField, fo30_1, bL, Nat.reduceAdd, aStore, ti3, getO, putO, splice, Nat.reduceLeDiff, tyX]
   try simp only [maskL, setsL, putsO, putO, bA, Nat.reduceEqDiff, ↓reduceIte]
   first | rw [if_pos (by simpa using hb10)] | rw [if_neg (by simpa using hb10)]
   exact Weak.mk (by simp only [LeL, Le.refl, Le.any, and_self]) (fun _ _ h => h) rfl rfl
  ·
   refine AWp_skip ?_
   try simp only [bF]
   try simp only [maskL, setsL, putsO, putO, bA, Nat.reduceEqDiff, ↓reduceIte]
   first | rw [if_pos (by simpa using hb10)] | rw [if_neg (by simpa using hb10)]
   exact Weak.mk (by simp only [LeL, Le.refl, Le.any, and_self]) (fun _ _ h => h) rfl rfl
 simp only [maskL, setsL, putsO, putO, bA, Nat.reduceEqDiff, ↓reduceIte]
 refine AWp_seqK fun K5 hK5 => ?_
 refine AWp_region ?_
 simp only [↓bO, bS, bA, bF, ↓reduceIte, Nat.reduceEqDiff, reduceCtorEq, tyX]
 refine hK5 _ ?_; try clear hK5 K5
 refine AWp_seqK fun K6 hK6 => ?_
 refine AWp_seqK fun K7 hK7 => ?_
 refine AWp_region ?_
 simp only [↓bO, bS, bA, bF, ↓reduceIte, Nat.reduceEqDiff, reduceCtorEq, aField, fo30_2, bL, Nat.reduceAdd, aLoad, ti28, getO, pack, Nat.reduceLeDiff, aLenX, aLen, ln28, List.length_map, tyX]
 refine hK7 _ ?_; try clear hK7 K7
 refine AWp_block ?_
 refine AWp_weak (Weak.tokSlot 5 30 3 rfl) ?_
 simp only [List.set_cons_zero, List.set_cons_succ]
 refine AWp_loopM (σ := Nat) [false, true, true, false, true, true, false, false, false, false, false, false, false, false, false, false, false, true, true, true, false, false, false, false, false, false, false, false, false, false, false, false, false] (fun s => s ≤ T.ps.length) (fun s => [(5, .osl 2 3 (((T.ps.take s).map (Ty.mapV φ)).map Ty.cells)), (19, .v (.int .i64 (s : Int)))]) (fun s => [(2, .tok 30 3 s)]) (fun s => T.ps.length - s) 0 (by omega) ?_ (fun s hs => ?_)
 ·
  simp only [maskL, setsL, putsO, putO, bA, Nat.reduceEqDiff, ↓reduceIte, bL]
  exact Weak.mk (by simp only [LeL, Le.refl, Le.any, Le.slNil, and_self, Int.natCast_add, Int.cast_ofNat_Int, Int.natCast_one]) (fun _ _ h => h) rfl rfl
 simp only [maskL, setsL, putsO, putO, bA, Nat.reduceEqDiff, ↓reduceIte]
 refine AWp_seqK fun K8 hK8 => ?_
 refine AWp_region ?_
 simp only [↓bO, bS, bA, bF, ↓reduceIte, Nat.reduceEqDiff, reduceCtorEq, aBin, tyX]
 refine hK8 _ ?_; try clear hK8 K8
 refine AWp_seqK fun K9 hK9 => ?_
 refine AWp_cond rfl (fun hb20 => ?_) (fun hb20 => ?_)
 ·
  have hk : s < T.ps.length := by simpa using hb20
  obtain ⟨p, hp⟩ : ∃ p, T.ps[s]? = some p := ⟨_, List.getElem?_eq_getElem hk⟩
  have hpm := Ty.cnt_mem (List.mem_of_getElem? hp)
  have hw : IntKind.i64.wrap ((s : Int) + 1) = (s : Int) + 1 := wrap_in (by omega) (by omega)
  have hln : (((T.ps.take s).map (Ty.mapV φ)).map Ty.cells).length = s := by simp; omega
  have hb1 : (s + 1) * 40 ≤ 140737488355328 := by omega
  have hb2 : s + 1 ≤ maxLen := by simp only [maxLen]; omega
  refine AWp_skip ?_
  try simp only [bF]
  refine hK9 _ ?_; try clear hK9 K9
  refine AWp_seqK fun K10 hK10 => ?_
  refine AWp_block ?_
  refine AWp_seqK fun K11 hK11 => ?_
  refine AWp_region ?_
  simp only [↓bO, bS, bA, bF, ↓reduceIte, Nat.reduceEqDiff, reduceCtorEq, getO, aIndexA, es28, Int.natCast_nonneg, Int.ofNat_lt, Int.toNat_natCast, List.length_map, Int.le_refl, Int.toNat_zero, Int.toNat_one, Int.reduceLE, aLoad, ti30, pack, bL, Nat.reduceAdd, Nat.reduceLeDiff, zc30, aStore, putO, splice, tyX, hk, gM hp, Int.natCast_add, Int.natCast_one, hw, hln, hb1, hb2, List.map_append, take_map_step (Ty.mapV φ) hp]
  refine hK11 _ ?_; try clear hK11 K11
  refine AWp_region ?_
  refine aops_chunk 3 fun C12 hC12 => ?_
  simp only [bL, ↓bO, bS, bA, bF, ↓reduceIte, Nat.reduceEqDiff, reduceCtorEq, aLoad, ti30, getO, pack, Nat.reduceAdd, Nat.reduceLeDiff, tyX, hk, gM hp, Int.natCast_add, Int.natCast_one, hw, hln, hb1, hb2, List.map_append, take_map_step (Ty.mapV φ) hp]
  refine hC12 _ ?_; clear hC12 C12
  simp only [bL]
  refine aops_chunk 1 fun C13 hC13 => ?_
  simp only [bL, ↓bO, bS, bA, bF, ↓reduceIte, Nat.reduceEqDiff, reduceCtorEq, aCallV, tyX, hk, gM hp, Int.natCast_add, Int.natCast_one, hw, hln, hb1, hb2, List.map_append, take_map_step (Ty.mapV φ) hp]
  refine APure.call (ih p (List.mem_of_getElem? hp) g caps φ hd hφ (by omega)) ?_
  try simp only [bS, bA, bF]
  refine hC13 _ ?_; clear hC13 C13
  simp only [bL]
  simp only [↓bO, bS, bA, bF, ↓reduceIte, Nat.reduceEqDiff, reduceCtorEq, ↓bs1_1, ↓bs1_2, ↓bs1_3, ↓bs1_4, ↓bs1_5, ↓bs1_6, ↓bs1_7, ↓bs1_8, ↓bs1_9, ↓bs1_10, ↓bs1_11, ↓bs1_12, aBuildSl, ei28, ia30, bL, List.range_succ, List.range_zero, List.forall_mem_cons, List.not_mem_nil, false_imp_iff, implies_true, Nat.reduceAdd, Nat.reduceLeDiff, forall_eq, List.mem_singleton, aAppend, slIn, slAt, slOf, List.length_map, getO, putO, tyX, hk, gM hp, Int.natCast_add, Int.natCast_one, hw, hln, hb1, hb2, List.map_append, take_map_step (Ty.mapV φ) hp]
  refine hK10 _ ?_; try clear hK10 K10
  refine AWp_region ?_
  simp only [↓bO, bS, bA, bF, ↓reduceIte, Nat.reduceEqDiff, reduceCtorEq, aBin, tyX, hk, gM hp, Int.natCast_add, Int.natCast_one, hw, hln, hb1, hb2, List.map_append, bL, take_map_step (Ty.mapV φ) hp]
  refine ⟨(s + 1), (by omega), by omega, ?_⟩
  simp only [maskL, setsL, putsO, putO, bA, Nat.reduceEqDiff, ↓reduceIte, hk, gM hp, Int.natCast_add, Int.natCast_one, hw, hln, hb1, hb2, List.map_append, bL, take_map_step (Ty.mapV φ) hp]
  first | (refine Weak.drops 1 3 rfl rfl (by simp only; omega) (by simp only; omega) ?_ ?_ ?_) | (refine Weak.drops 0 3 rfl rfl (by simp only; omega) (by simp only; omega) ?_ ?_ ?_)
  · simp only [LeL, Le.refl, Le.any, and_self, Int.natCast_add, Int.cast_ofNat_Int, Int.natCast_one]
  · simp only [UndL, UndOs, Ob.Und, and_true, true_and, and_self, Und.v, Und.any, Und.ptr, Und.map, Nat.reduceLT, Nat.zero_lt_succ, Und.tys, Und.tyAgg, Und.oslTys, Und.oslTys1, Und.clo0, Und.ty, Und.data (n := 3) (Data.clo (f := g) hd)]
  · simp only [UndL, UndOs, Ob.Und, and_true, true_and, and_self, Und.v, Und.any, Und.ptr, Und.map, Nat.reduceLT, Nat.zero_lt_succ, Und.tys, Und.tyAgg, Und.oslTys, Und.oslTys1, Und.clo0, Und.ty, Und.data (n := 3) (Data.clo (f := g) hd)]
 ·
  have hk : s = T.ps.length := by simp at hb20; omega
  refine AWp_exit ?_
  simp only [bF, bA, Nat.reduceEqDiff, ↓reduceIte]
  refine hK6 _ ?_; try clear hK6 K6
  refine AWp_seqK fun K14 hK14 => ?_
  refine AWp_region ?_
  simp only [↓bO, bS, bA, bF, ↓reduceIte, Nat.reduceEqDiff, reduceCtorEq, aField, fo30_2, bL, Nat.reduceAdd, aStore, ti28, getO, putO, splice, Nat.reduceLeDiff, tyX]
  refine hK14 _ ?_; try clear hK14 K14
  refine AWp_seqK fun K15 hK15 => ?_
  refine AWp_region ?_
  simp only [↓bO, bS, bA, bF, ↓reduceIte, Nat.reduceEqDiff, reduceCtorEq, aLoad, ti30, getO, pack, bL, Nat.reduceAdd, Nat.reduceLeDiff, aStore, putO, splice, tyX]
  refine hK15 _ ?_; try clear hK15 K15
  refine AWp_ret ?_
  try simp only [bF, retQ, aRes, tupOf, bS, bA, aLoad, getO, pack, bL, Nat.reduceAdd, Nat.reduceLeDiff, Nat.reduceEqDiff, ↓reduceIte, ti30, tyX]
  refine Le.agg ?_
  rw [Ty.mapV_eq, Ty.cells_eq, hk, List.take_length]
  exact ⟨.refl _, .refl _, Le.oslL, trivial⟩
theorem Copy1_pure (n : Int) : APure Try.prog 92 [.v (.int .i64 n)] (.v (.int .i64 n)) := by
 refine APure.mkL (.cons (.v _) .nil) (.v _) ?_
 refine ACalls_intro Try.func92 (by kernel_rfl) rfl (by rw [Try.ntmps92]; simp) (fun hm => ?_)
 simp only [Try.ntmps92, Try.results92, List.length_cons, List.length_nil, Nat.reduceAdd, Nat.reduceSub, List.replicate_succ, List.replicate_zero, List.cons_append, List.nil_append]
 refine AWp_seqK fun K1 hK1 => ?_
 refine AWp_region ?_
 simp only [↓bO, bS, bA, bF, ↓reduceIte, Nat.reduceEqDiff, reduceCtorEq, tyX]
 refine hK1 _ ?_; try clear hK1 K1
 refine AWp_seqK fun K2 hK2 => ?_
 refine AWp_region ?_
 simp only [↓bO, bS, bA, bF, ↓reduceIte, Nat.reduceEqDiff, reduceCtorEq, tyX]
 refine hK2 _ ?_; try clear hK2 K2
 refine AWp_ret ?_
 try simp only [bF, retQ, aRes, tupOf, bS, bA]
 exact Le.refl _
theorem Copy_pure (T : Ty) (hT : T.cnt ≤ 1099511627776) : APure Try.prog 69 [.agg T.cells] (.agg T.cells) := by
 refine APure.mkL (.cons T.dataAgg .nil) (T.dataAgg) ?_
 refine ACalls_intro Try.func69 (by kernel_rfl) rfl (by rw [Try.ntmps69]; simp) (fun hm => ?_)
 simp only [Try.ntmps69, Try.results69, List.length_cons, List.length_nil, Nat.reduceAdd, Nat.reduceSub, List.replicate_succ, List.replicate_zero, List.cons_append, List.nil_append]
 simp only [Ty.cells_eq T, List.cons_append, List.nil_append]
 refine AWp_seqK fun K1 hK1 => ?_
 refine AWp_region ?_
 simp only [↓bO, bS, bA, bF, ↓reduceIte, Nat.reduceEqDiff, reduceCtorEq, zc30, bL]
 refine hK1 _ ?_; try clear hK1 K1
 refine AWp_seqK fun K2 hK2 => ?_
 refine AWp_region ?_
 refine aops_chunk 1 fun C3 hC3 => ?_
 simp only [bL, ↓bO, bS, bA, bF, ↓reduceIte, Nat.reduceEqDiff, reduceCtorEq, aLoad, ti30, getO, pack, Nat.reduceAdd, Nat.reduceLeDiff]
 refine hC3 _ ?_; clear hC3 C3
 simp only [bL]
 refine aops_chunk 1 fun C4 hC4 => ?_
 simp only [bL, ↓bO, bS, bA, bF, ↓reduceIte, Nat.reduceEqDiff, reduceCtorEq, aCallV]
 refine APure.call (by have h9 := change_pure T 92 [] (fun n => n) (fun _ h => by cases h) (fun n => Copy1_pure n) hT; rw [Ty.mapV_id, Ty.cells_eq T] at h9; exact h9) ?_
 try simp only [bS, bA, bF]
 refine hC4 _ ?_; clear hC4 C4
 simp only [bL]
 simp only [↓bO, bS, bA, bF, ↓reduceIte, Nat.reduceEqDiff, reduceCtorEq, aStore, ti30, getO, putO, splice, bL, Nat.reduceAdd, Nat.reduceLeDiff]
 refine hK2 _ ?_; try clear hK2 K2
 refine AWp_ret ?_
 try simp only [bF, retQ, aRes, tupOf, bS, bA, aLoad, getO, pack, bL, Nat.reduceAdd, Nat.reduceLeDiff, Nat.reduceEqDiff, ↓reduceIte, ti30]
 exact Le.refl _
def arrowL : List Ty → Ty
  | [] => .mk 0 0 []
  | [t] => t
  | t :: ts => .mk 4 0 [t, arrowL ts]
theorem arrowL_nil {ps : List Ty} (h : ps.length = 0) : arrowL ps = .mk 0 0 [] := by rw [List.length_eq_zero_iff.1 h]; rfl
theorem arrowL_one {ps : List Ty} {p : Ty} (h : ps.length = 1) (hp : ps[0]? = some p) : arrowL ps = p := by
  match ps, h, hp with
  | [t], _, hp => simp at hp; rw [← hp]; rfl
theorem arrowL_more {ps : List Ty} {p : Ty} (h : 2 ≤ ps.length) (hp : ps[0]? = some p) : arrowL ps = .mk 4 0 [p, arrowL (ps.drop 1)] := by
  match ps, h, hp with
  | t :: u :: ts, _, hp => simp at hp; rw [← hp]; rfl
theorem Arrow_pure : ∀ (n : Nat) (ps : List Ty), ps.length = n → Ty.cntL ps ≤ 1099511627776 → APure Try.prog 44 [.sl 3 (ps.map Ty.cells)] (.agg (arrowL ps).cells) := by
 intro n
 induction n with
 | zero =>
  intro ps hn hc
  refine APure.mkL (.cons (Ty.dataSl ps) .nil) (Ty.dataAgg _) ?_
  have h0 : ((ps.length : Int) == 0) = true := by simp; exact List.length_eq_zero_iff.1 hn
  refine ACalls_intro Try.func44 (by kernel_rfl) rfl (by rw [Try.ntmps44]; simp) (fun hm => ?_)
  simp only [Try.ntmps44, Try.results44, List.length_cons, List.length_nil, Nat.reduceAdd, Nat.reduceSub, List.replicate_succ, List.replicate_zero, List.cons_append, List.nil_append]
  refine AWp_seqK fun K1 hK1 => ?_
  refine AWp_region ?_
  simp only [↓bO, bS, bA, bF, ↓reduceIte, Nat.reduceEqDiff, reduceCtorEq, zc30, bL, h0]
  refine hK1 _ ?_; try clear hK1 K1
  refine AWp_seqK fun K2 hK2 => ?_
  refine AWp_seqK fun K3 hK3 => ?_
  refine AWp_region ?_
  simp only [↓bO, bS, bA, bF, ↓reduceIte, Nat.reduceEqDiff, reduceCtorEq, getO, aLenX, aLen, ln28, List.length_map, h0]
  refine hK3 _ ?_; try clear hK3 K3
  refine AWp_block ?_
  refine AWp_seqK fun K4 hK4 => ?_
  refine AWp_region ?_
  simp only [↓bO, bS, bA, bF, ↓reduceIte, Nat.reduceEqDiff, reduceCtorEq, aBin, h0]
  refine hK4 _ ?_; try clear hK4 K4
  refine AWp_cond rfl (fun hb5 => ?_) (fun hb5 => ?_)
  ·
   refine AWp_seqK fun K5 hK5 => ?_
   refine AWp_region ?_
   simp only [↓bO, bS, bA, bF, ↓reduceIte, Nat.reduceEqDiff, reduceCtorEq, aBuild, zc30, pc30, aFill, splice, bL, Nat.reduceAdd, Nat.reduceLeDiff, aStore, ti30, getO, putO, h0]
   refine hK5 _ ?_; try clear hK5 K5
   refine AWp_ret ?_
   try simp only [bF, retQ, aRes, tupOf, bS, bA, aLoad, getO, pack, bL, Nat.reduceAdd, Nat.reduceLeDiff, Nat.reduceEqDiff, ↓reduceIte, ti30, h0]
   refine Le.agg ?_
   rw [arrowL_nil hn, Ty.cells_eq]
   exact ⟨.refl _, .refl _, Le.slNil 3, trivial⟩
  ·
   cases hb5
 | succ n ih =>
  intro ps hn hc
  refine APure.mkL (.cons (Ty.dataSl ps) .nil) (Ty.dataAgg _) ?_
  obtain ⟨p, hp⟩ : ∃ p, ps[0]? = some p := ⟨_, List.getElem?_eq_getElem (by omega)⟩
  have hpc := Ty.cnt_mem (List.mem_of_getElem? hp)
  have hlt : (0 : Int) < (ps.length : Int) := by omega
  have hle : (1 : Int) ≤ (ps.length : Int) := by omega
  have hdr : (ps.map Ty.cells).drop 1 = (ps.drop 1).map Ty.cells := by rw [List.map_drop]
  have hdc : Ty.cntL (ps.drop 1) ≤ Ty.cntL ps := by have h9 := Ty.cntL_append (ps.take 1) (ps.drop 1); rw [List.take_append_drop] at h9; omega
  refine ACalls_intro Try.func44 (by kernel_rfl) rfl (by rw [Try.ntmps44]; simp) (fun hm => ?_)
  simp only [Try.ntmps44, Try.results44, List.length_cons, List.length_nil, Nat.reduceAdd, Nat.reduceSub, List.replicate_succ, List.replicate_zero, List.cons_append, List.nil_append]
  refine AWp_seqK fun K1 hK1 => ?_
  refine AWp_region ?_
  simp only [↓bO, bS, bA, bF, ↓reduceIte, Nat.reduceEqDiff, reduceCtorEq, zc30, bL, tyX, hlt, hle, hdr, gM hp]
  refine hK1 _ ?_; try clear hK1 K1
  refine AWp_seqK fun K2 hK2 => ?_
  refine AWp_seqK fun K3 hK3 => ?_
  refine AWp_region ?_
  simp only [↓bO, bS, bA, bF, ↓reduceIte, Nat.reduceEqDiff, reduceCtorEq, getO, aLenX, aLen, ln28, List.length_map, tyX, hlt, hle, hdr, gM hp, bL]
  refine hK3 _ ?_; try clear hK3 K3
  refine AWp_block ?_
  refine AWp_seqK fun K4 hK4 => ?_
  refine AWp_region ?_
  simp only [↓bO, bS, bA, bF, ↓reduceIte, Nat.reduceEqDiff, reduceCtorEq, aBin, tyX, hlt, hle, hdr, gM hp, bL]
  refine hK4 _ ?_; try clear hK4 K4
  refine AWp_cond rfl (fun hb5 => ?_) (fun hb5 => ?_)
  ·
   exact absurd hb5 (by simp only [AV.v.injEq, Value.bool.injEq, beq_iff_eq]; omega)
  ·
   refine AWp_seqK fun K5 hK5 => ?_
   refine AWp_region ?_
   simp only [↓bO, bS, bA, bF, ↓reduceIte, Nat.reduceEqDiff, reduceCtorEq, aBin, tyX, hlt, hle, hdr, gM hp, bL]
   refine hK5 _ ?_; try clear hK5 K5
   refine AWp_cond rfl (fun hb8 => ?_) (fun hb8 => ?_)
   ·
    have h1 : ps.length = 1 := by simp at hb8; omega
    refine AWp_seqK fun K6 hK6 => ?_
    refine AWp_region ?_
    refine aops_chunk 3 fun C7 hC7 => ?_
    simp only [bL, ↓bO, bS, bA, bF, ↓reduceIte, Nat.reduceEqDiff, reduceCtorEq, getO, aIndexA, es28, Int.natCast_nonneg, Int.ofNat_lt, Int.toNat_natCast, List.length_map, Int.le_refl, Int.toNat_zero, Int.toNat_one, Int.reduceLE, aLoad, ti30, pack, Nat.reduceAdd, Nat.reduceLeDiff, tyX, hlt, hle, hdr, gM hp]
    refine hC7 _ ?_; clear hC7 C7
    simp only [bL]
    refine aops_chunk 1 fun C8 hC8 => ?_
    simp only [bL, ↓bO, bS, bA, bF, ↓reduceIte, Nat.reduceEqDiff, reduceCtorEq, aCallV, tyX, hlt, hle, hdr, gM hp]
    refine APure.call (Copy_pure p (by omega)) ?_
    try simp only [bS, bA, bF]
    refine hC8 _ ?_; clear hC8 C8
    simp only [bL]
    simp only [↓bO, bS, bA, bF, ↓reduceIte, Nat.reduceEqDiff, reduceCtorEq, aStore, ti30, getO, putO, splice, bL, Nat.reduceAdd, Nat.reduceLeDiff, tyX, hlt, hle, hdr, gM hp]
    refine hK6 _ ?_; try clear hK6 K6
    refine AWp_ret ?_
    try simp only [bF, retQ, aRes, tupOf, bS, bA, aLoad, getO, pack, bL, Nat.reduceAdd, Nat.reduceLeDiff, Nat.reduceEqDiff, ↓reduceIte, ti30, tyX, hlt, hle, hdr, gM hp]
    refine Le.agg ?_
    first | (rw [arrowL_one h1 hp]; exact LeL.refl _) | (rw [arrowL_more h1 hp, Ty.cells]; exact ⟨.refl _, .refl _, Le.of_eq (by simp [Ty.cellsL]), trivial⟩)
   ·
    have h1 : 2 ≤ ps.length := by simp at hb8; omega
    refine AWp_skip ?_
    try simp only [bF]
    refine hK2 _ ?_; try clear hK2 K2
    refine AWp_seqK fun K9 hK9 => ?_
    refine AWp_drawK 9 mixed (by kernel_rfl) fun K10 hK10 => ?_
    simp only [bL]
    refine dRun_chunk 3 fun C11 hC11 => ?_
    simp only [bL, ↓dRun, ↓dOp, ↓bO, bS, bA, bF, ↓reduceIte, Nat.reduceEqDiff, reduceCtorEq, getO, aIndexA, es28, Int.natCast_nonneg, Int.ofNat_lt, Int.toNat_natCast, List.length_map, Int.le_refl, Int.toNat_zero, Int.toNat_one, Int.reduceLE, aLoad, ti30, pack, Nat.reduceAdd, Nat.reduceLeDiff, tyX, hlt, hle, hdr, gM hp]
    refine hC11 _ ?_; clear hC11 C11
    simp only [bL]
    refine dRun_chunk 1 fun C12 hC12 => ?_
    simp only [bL, ↓dRun, ↓dOp, ↓bO, bS, bA, bF, ↓reduceIte, Nat.reduceEqDiff, reduceCtorEq, aCallV, tyX, hlt, hle, hdr, gM hp]
    refine ⟨_, Copy_pure p (by omega), ?_⟩
    try simp only [bS, bA, bF]
    refine hC12 _ ?_; clear hC12 C12
    simp only [bL]
    refine dRun_chunk 2 fun C13 hC13 => ?_
    simp only [bL, ↓dRun, ↓dOp, ↓bO, bS, bA, bF, ↓reduceIte, Nat.reduceEqDiff, reduceCtorEq, aMore, aSlice, aBnd, es28, Option.map_some, Option.map_none, Int.toNat_natCast, Int.toNat_zero, Int.toNat_one, Int.reduceLE, Int.natCast_nonneg, List.length_map, List.take_length, Int.le_refl, tyX, hlt, hle, hdr, gM hp]
    refine hC13 _ ?_; clear hC13 C13
    simp only [bL]
    refine dRun_chunk 1 fun C14 hC14 => ?_
    simp only [bL, ↓dRun, ↓dOp, ↓bO, bS, bA, bF, ↓reduceIte, Nat.reduceEqDiff, reduceCtorEq, aCallV, tyX, hlt, hle, hdr, gM hp]
    refine ⟨_, ih (ps.drop 1) (by simp; omega) (by omega), ?_⟩
    try simp only [bS, bA, bF]
    refine hC14 _ ?_; clear hC14 C14
    simp only [bL]
    simp only [↓dRun, ↓dOp, bL, ↓bO, bS, bA, bF, ↓reduceIte, Nat.reduceEqDiff, reduceCtorEq, ↓bs2_1, ↓bs2_2, ↓bs2_3, ↓bs2_4, ↓bs2_5, ↓bs2_6, ↓bs2_7, ↓bs2_8, ↓bs2_9, ↓bs2_10, ↓bs2_11, ↓bs2_12, aBuildSl, ei28, ia30, List.range_succ, List.range_zero, List.forall_mem_cons, List.not_mem_nil, false_imp_iff, implies_true, Nat.reduceAdd, Nat.reduceLeDiff, forall_eq, List.mem_singleton, aBuild, zc30, pc30, aFill, splice, tyX, hlt, hle, hdr, gM hp]
    refine hK10 _ ?_; try clear hK10 K10
    simp only [bL]
    simp only [↓bO, bS, bA, bF, ↓reduceIte, Nat.reduceEqDiff, reduceCtorEq, aStore, ti30, getO, putO, splice, bL, Nat.reduceAdd, Nat.reduceLeDiff, tyX, hlt, hle, hdr, gM hp]
    refine hK9 _ ?_; try clear hK9 K9
    refine AWp_ret ?_
    try simp only [bF, retQ, aRes, tupOf, bS, bA, aLoad, getO, pack, bL, Nat.reduceAdd, Nat.reduceLeDiff, Nat.reduceEqDiff, ↓reduceIte, ti30, tyX, hlt, hle, hdr, gM hp]
    refine Le.agg ?_
    first | (rw [arrowL_one h1 hp]; exact LeL.refl _) | (rw [arrowL_more h1 hp, Ty.cells]; exact ⟨.refl _, .refl _, Le.of_eq (by simp [Ty.cellsL]), trivial⟩)
end Go.Proofs.Ytjjjckjebkmnjaa
namespace Go.Proofs.Ytjjjckjebkmnjaa
open Go Go.RowKit
set_option maxRecDepth 100000
set_option maxHeartbeats 1000000
set_option linter.unusedSimpArgs false
set_option linter.unusedVariables false
attribute [local irreducible] aops dRun
mutual
def Ty.room : Ty → Int → Nat → Int
  | .mk _ _ _, _, 0 => -1
  | .mk _ _ ps, n, d + 1 => Ty.roomL ps (n - 1) d
def Ty.roomL : List Ty → Int → Nat → Int
  | [], n, _ => n
  | p :: ps, n, d => if n < 0 then n else Ty.roomL ps (Ty.room p n d) d
end
theorem Ty.room_zero (t : Ty) (n : Int) : t.room n 0 = -1 := by cases t; simp [Ty.room]
theorem Ty.room_succ (t : Ty) (n : Int) (d : Nat) : t.room n (d + 1) = Ty.roomL t.ps (n - 1) d := by cases t; simp [Ty.room, Ty.ps]
theorem Ty.roomL_neg : ∀ (ps : List Ty) {n : Int} {d : Nat}, n < 0 → Ty.roomL ps n d = n
  | [], n, d, h => by simp [Ty.roomL]
  | p :: ps, n, d, h => by simp [Ty.roomL, h]
theorem Ty.roomL_append : ∀ (xs bs : List Ty) (n : Int) (d : Nat), Ty.roomL (xs ++ bs) n d = Ty.roomL bs (Ty.roomL xs n d) d
  | [], bs, n, d => by simp [Ty.roomL]
  | x :: xs, bs, n, d => by
    simp only [List.cons_append, Ty.roomL]
    split
    · rename_i h; rw [Ty.roomL_neg bs h]
    · exact Ty.roomL_append xs bs _ d
theorem Ty.room_le : ∀ (t : Ty) (n : Int) (d : Nat), 0 ≤ n → -1 ≤ t.room n d ∧ t.room n d ≤ n - 1 := by
  refine Ty.ind fun t ih => ?_
  have key : ∀ (ps : List Ty), (∀ p ∈ ps, ∀ (n : Int) (d : Nat), 0 ≤ n → -1 ≤ p.room n d ∧ p.room n d ≤ n - 1) → ∀ (n : Int) (d : Nat), -1 ≤ n → -1 ≤ Ty.roomL ps n d ∧ Ty.roomL ps n d ≤ n := by
    intro ps
    induction ps with
    | nil => intro _ n d h; simp [Ty.roomL]; exact h
    | cons p ps ihp =>
      intro hp n d h
      simp only [Ty.roomL]
      split
      · omega
      · have h1 := hp p (by simp) n d (by omega)
        have h2 := ihp (fun q hq => hp q (by simp [hq])) (p.room n d) d h1.1
        omega
  intro n d h
  cases d with
  | zero => rw [Ty.room_zero]; omega
  | succ d =>
    rw [Ty.room_succ]
    have := key t.ps ih (n - 1) d (by omega)
    omega
theorem Ty.roomL_le (ps : List Ty) (n : Int) (d : Nat) (h : -1 ≤ n) : -1 ≤ Ty.roomL ps n d ∧ Ty.roomL ps n d ≤ n := by
  have := Ty.room_le (.mk 0 0 ps) (n + 1) (d + 1) (by omega)
  rw [Ty.room_succ] at this
  simp only [Ty.ps] at this
  rw [show n + 1 - 1 = n by omega] at this
  exact this
theorem Ty.roomL_step {ps : List Ty} {s : Nat} {p : Ty} (hp : ps[s]? = some p) (n : Int) (d : Nat) (h : 0 ≤ Ty.roomL (ps.take s) n d) : Ty.roomL (ps.take (s + 1)) n d = p.room (Ty.roomL (ps.take s) n d) d := by
  rw [List.take_add_one, hp, Ty.roomL_append]
  simp only [Option.toList_some, Ty.roomL]
  rw [if_neg (by omega)]
theorem Ty.roomL_stop (ps : List Ty) (s : Nat) (n : Int) (d : Nat) (h : Ty.roomL (ps.take s) n d < 0) : Ty.roomL ps n d = Ty.roomL (ps.take s) n d := by
  conv => lhs; rw [← List.take_append_drop s ps]
  rw [Ty.roomL_append, Ty.roomL_neg _ h]
end Go.Proofs.Ytjjjckjebkmnjaa
namespace Go.Proofs.Ytjjjckjebkmnjaa
open Go Go.RowKit
set_option maxRecDepth 100000
set_option maxHeartbeats 1000000
set_option linter.unusedSimpArgs false
set_option linter.unusedVariables false
attribute [local irreducible] aops dRun
abbrev intC (x : Int) : List AV := [.v (.int .i64 x)]
theorem dataInts (l : List Int) : Data (.sl 1 (l.map intC)) := .sl fun x hx => by
  obtain ⟨y, _, rfl⟩ := List.mem_map.1 hx
  exact .cons (.v _) .nil
theorem ints_one (l : List Int) : ((l.map intC).all fun y => y.all AV.one) = true := by
  rw [List.all_eq_true]
  intro y hy
  obtain ⟨r, _, rfl⟩ := List.mem_map.1 hy
  rfl
structure RNode where
  t : Ty
  parts : List Int
def RNode.cells (r : RNode) : List AV := [.v (.int .i64 r.t.k), .v (.int .i64 r.t.n), .sl 3 (r.t.ps.map Ty.cells), .sl 1 (r.parts.map intC)]
theorem Ty.refold (t : Ty) : AV.agg [.v (.int .i64 t.k), .v (.int .i64 t.n), .sl 3 (t.ps.map Ty.cells)] = .agg t.cells := by rw [t.cells_eq]
theorem RNode.data (r : RNode) : DataL r.cells := .cons (.v _) (.cons (.v _) (.cons (Ty.dataSl _) (.cons (dataInts _) .nil)))
theorem RNode.dataSl (g : List RNode) : Data (.sl 4 (g.map RNode.cells)) := .sl fun x hx => by
  obtain ⟨y, _, rfl⟩ := List.mem_map.1 hx
  exact y.data
def RNode.isVar (n : Int) (r : RNode) : Bool := r.t.k == 1 && r.t.n == n
mutual
def Ty.radd : Ty → List RNode → List RNode × Int
  | .mk k n ps, g =>
    if k = 1 ∧ 0 ≤ idxI (RNode.isVar n) g then (g, idxI (RNode.isVar n) g)
    else
      let r := Ty.raddL ps g []
      (r.1 ++ [⟨.mk k n ps, r.2⟩], (r.1.length : Int))
def Ty.raddL : List Ty → List RNode → List Int → List RNode × List Int
  | [], g, l => (g, l)
  | p :: ps, g, l =>
    let r := Ty.radd p g
    Ty.raddL ps r.1 (l ++ [r.2])
end
theorem Ty.radd_eq (t : Ty) (g : List RNode) : t.radd g = if t.k = 1 ∧ 0 ≤ idxI (RNode.isVar t.n) g then (g, idxI (RNode.isVar t.n) g) else ((Ty.raddL t.ps g []).1 ++ [⟨t, (Ty.raddL t.ps g []).2⟩], ((Ty.raddL t.ps g []).1.length : Int)) := by
  cases t; rw [Ty.radd]; rfl
end Go.Proofs.Ytjjjckjebkmnjaa
