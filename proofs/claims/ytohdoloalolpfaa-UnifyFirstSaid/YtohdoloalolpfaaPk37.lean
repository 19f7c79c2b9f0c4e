/- Texts of the abstract walk, of the contracts and of the plain laws, packed (part 37 of 42): Ur1 Ur2. Conditions: none. -/
import Derived.Test.YtohdoloalolpfaaPk36
namespace Go.Proofs.Ytohdoloalolpfaa
open Go Go.RowKit
set_option maxRecDepth 100000
set_option maxHeartbeats 1000000
set_option linter.unusedSimpArgs false
set_option linter.unusedVariables false
attribute [local irreducible] aops dRun
open Classical in
noncomputable def sameC (c : List Int) (a b : Int) : Bool := decide ((0 ≤ a ∧ a < (c.length : Int)) ∧ (0 ≤ b ∧ b < (c.length : Int)) ∧ c[a.toNat]? = c[b.toNat]?)
theorem SIn_pure (c : List Int) (i : Int) : APure Try.prog 111 [.sl 1 (c.map intC), .v (.int .i64 i)] (.v (.bool (decide (0 ≤ i ∧ i < (c.length : Int))))) := by
 refine APure.mkL (.cons (dataInts _) (.cons (.v _) .nil)) (.v _) ?_
 refine ACalls_intro Try.func111 (by kernel_rfl) rfl (by rw [Try.ntmps111]; simp) (fun hm => ?_)
 simp only [Try.ntmps111, Try.results111, List.length_cons, List.length_nil, Nat.reduceAdd, Nat.reduceSub, List.replicate_succ, List.replicate_zero, List.cons_append, List.nil_append]
 refine AWp_seqK fun K1 hK1 => ?_
 refine AWp_region ?_
 simp only [↓bO, bS, bA, bF, ↓reduceIte, Nat.reduceEqDiff, reduceCtorEq, List.length_map]
 refine hK1 _ ?_; try clear hK1 K1
 refine AWp_seqK fun K2 hK2 => ?_
 refine AWp_region ?_
 refine aops_chunk 3 fun C3 hC3 => ?_
 simp only [bL, ↓bO, bS, bA, bF, ↓reduceIte, Nat.reduceEqDiff, reduceCtorEq, aBin, List.length_map]
 refine hC3 _ ?_; clear hC3 C3
 simp only [bL]
 refine aops_case 7 rfl (fun hc7 => ?_) (fun hc7 => ?_)
 ·
  simp only [List.set_cons_zero, List.set_cons_succ]
  refine aops_chunk 4 fun C4 hC4 => ?_
  simp only [bL, ↓bO, bS, bA, bF, ↓reduceIte, Nat.reduceEqDiff, reduceCtorEq, undef, getO, aLenX, aLen, ln109, List.length_map, aBin]
  refine hC4 _ ?_; clear hC4 C4
  simp only [bL]
  simp only [↓bO, bS, bA, bF, ↓reduceIte, Nat.reduceEqDiff, reduceCtorEq, aBool, List.length_map]
  refine hK2 _ ?_; try clear hK2 K2
  refine AWp_ret ?_
  try simp only [bF, retQ, aRes, tupOf, bS, bA]
  refine Le.of_eq (congrArg (fun b => AV.v (.bool b)) ?_)
  rw [Bool.eq_iff_iff]
  simp only [decide_eq_true_eq, decide_eq_false_iff_not, Bool.false_eq_true, false_iff, ge_iff_le] at *
  try omega
 ·
  simp only [List.set_cons_zero, List.set_cons_succ]
  refine aops_chunk 4 fun C5 hC5 => ?_
  simp only [bL, ↓bO, bS, bA, bF, ↓reduceIte, Nat.reduceEqDiff, reduceCtorEq, undef, getO, aLenX, aLen, ln109, List.length_map, aBin]
  refine hC5 _ ?_; clear hC5 C5
  simp only [bL]
  simp only [↓bO, bS, bA, bF, ↓reduceIte, Nat.reduceEqDiff, reduceCtorEq, aBool, List.length_map]
  refine hK2 _ ?_; try clear hK2 K2
  refine AWp_ret ?_
  try simp only [bF, retQ, aRes, tupOf, bS, bA]
  refine Le.of_eq (congrArg (fun b => AV.v (.bool b)) ?_)
  rw [Bool.eq_iff_iff]
  simp only [decide_eq_true_eq, decide_eq_false_iff_not, Bool.false_eq_true, false_iff, ge_iff_le] at *
  try omega
theorem SSame_pure (c : List Int) (a b : Int) : APure Try.prog 98 [.sl 1 (c.map intC), .v (.int .i64 a), .v (.int .i64 b)] (.v (.bool (sameC c a b))) := by
 refine APure.mkL (.cons (dataInts _) (.cons (.v _) (.cons (.v _) .nil))) (.v _) ?_
 refine ACalls_intro Try.func98 (by kernel_rfl) rfl (by rw [Try.ntmps98]; simp) (fun hm => ?_)
 simp only [Try.ntmps98, Try.results98, List.length_cons, List.length_nil, Nat.reduceAdd, Nat.reduceSub, List.replicate_succ, List.replicate_zero, List.cons_append, List.nil_append]
 refine AWp_seqK fun K1 hK1 => ?_
 refine AWp_region ?_
 simp only [↓bO, bS, bA, bF, ↓reduceIte, Nat.reduceEqDiff, reduceCtorEq, List.length_map, intC, bL]
 refine hK1 _ ?_; try clear hK1 K1
 refine AWp_seqK fun K2 hK2 => ?_
 refine AWp_drawK 19 mixed (by kernel_rfl) fun K3 hK3 => ?_
 simp only [bL]
 refine dRun_chunk 2 fun C4 hC4 => ?_
 simp only [bL, ↓dRun, ↓dOp, ↓bO, bS, bA, bF, ↓reduceIte, Nat.reduceEqDiff, reduceCtorEq, List.length_map, intC]
 refine hC4 _ ?_; clear hC4 C4
 simp only [bL]
 refine dRun_chunk 1 fun C5 hC5 => ?_
 simp only [bL, ↓dRun, ↓dOp, ↓bO, bS, bA, bF, ↓reduceIte, Nat.reduceEqDiff, reduceCtorEq, aCallV, List.length_map, intC]
 refine ⟨_, SIn_pure c a, ?_⟩
 try simp only [bS, bA, bF]
 refine hC5 _ ?_; clear hC5 C5
 simp only [bL]
 refine dRun_chunk 1 fun C6 hC6 => ?_
 simp only [bL, ↓dRun, ↓dOp, ↓bO, bS, bA, bF, ↓reduceIte, Nat.reduceEqDiff, reduceCtorEq, List.length_map, intC]
 refine hC6 _ ?_; clear hC6 C6
 simp only [bL]
 refine dRun_case 10 rfl (fun hc10 => ?_) (fun hc10 => ?_)
 ·
  simp only [List.set_cons_zero, List.set_cons_succ]
  have ha : 0 ≤ a ∧ a < (c.length : Int) := by simpa using hc10
  obtain ⟨x, hx⟩ : ∃ x, c[a.toNat]? = some x := ⟨_, List.getElem?_eq_getElem (by omega)⟩
  refine dRun_chunk 2 fun C7 hC7 => ?_
  simp only [bL, ↓dRun, ↓dOp, ↓bO, bS, bA, bF, ↓reduceIte, Nat.reduceEqDiff, reduceCtorEq, undef, List.length_map, intC, gM hx, ha.1, ha.2]
  refine hC7 _ ?_; clear hC7 C7
  simp only [bL]
  refine dRun_chunk 1 fun C8 hC8 => ?_
  simp only [bL, ↓dRun, ↓dOp, ↓bO, bS, bA, bF, ↓reduceIte, Nat.reduceEqDiff, reduceCtorEq, undef, aCallV, List.length_map, intC, gM hx, ha.1, ha.2]
  refine ⟨_, SIn_pure c b, ?_⟩
  try simp only [bS, bA, bF]
  refine hC8 _ ?_; clear hC8 C8
  simp only [bL]
  refine dRun_chunk 2 fun C9 hC9 => ?_
  simp only [bL, ↓dRun, ↓dOp, ↓bO, bS, bA, bF, ↓reduceIte, Nat.reduceEqDiff, reduceCtorEq, aBool, List.length_map, intC, gM hx, ha.1, ha.2]
  refine hC9 _ ?_; clear hC9 C9
  simp only [bL]
  refine dRun_case 15 rfl (fun hc15 => ?_) (fun hc15 => ?_)
  ·
   simp only [List.set_cons_zero, List.set_cons_succ]
   have hb : 0 ≤ b ∧ b < (c.length : Int) := by simpa using hc15
   obtain ⟨y, hy⟩ : ∃ y, c[b.toNat]? = some y := ⟨_, List.getElem?_eq_getElem (by omega)⟩
   refine dRun_chunk 4 fun C10 hC10 => ?_
   simp only [bL, ↓dRun, ↓dOp, ↓bO, bS, bA, bF, ↓reduceIte, Nat.reduceEqDiff, reduceCtorEq, undef, getO, aIndexA, es109, Int.natCast_nonneg, Int.ofNat_lt, Int.toNat_natCast, List.length_map, Int.le_refl, Int.toNat_zero, Int.toNat_one, Int.reduceLE, aLoad, ti3, pack, Nat.reduceAdd, Nat.reduceLeDiff, intC, gM hx, ha.1, ha.2, gM hy, hb.1, hb.2]
   refine hC10 _ ?_; clear hC10 C10
   simp only [bL]
   refine dRun_chunk 4 fun C11 hC11 => ?_
   simp only [bL, ↓dRun, ↓dOp, ↓bO, bS, bA, bF, ↓reduceIte, Nat.reduceEqDiff, reduceCtorEq, undef, getO, aIndexA, es109, Int.natCast_nonneg, Int.ofNat_lt, Int.toNat_natCast, List.length_map, Int.le_refl, Int.toNat_zero, Int.toNat_one, Int.reduceLE, aLoad, ti3, pack, Nat.reduceAdd, Nat.reduceLeDiff, intC, gM hx, ha.1, ha.2, gM hy, hb.1, hb.2]
   refine hC11 _ ?_; clear hC11 C11
   simp only [bL]
   simp only [↓dRun, ↓dOp, bL, ↓bO, bS, bA, bF, ↓reduceIte, Nat.reduceEqDiff, reduceCtorEq, undef, aBin, aBool, List.length_map, intC, gM hx, ha.1, ha.2, gM hy, hb.1, hb.2]
   refine hK3 _ ?_; try clear hK3 K3
   simp only [bL]
   simp only [↓bO, bS, bA, bF, ↓reduceIte, Nat.reduceEqDiff, reduceCtorEq, List.length_map, intC, bL, gM hx, ha.1, ha.2, gM hy, hb.1, hb.2]
   refine hK2 _ ?_; try clear hK2 K2
   refine AWp_ret ?_
   try simp only [bF, retQ, aRes, tupOf, bS, bA]
   refine Le.of_eq (congrArg (fun b => AV.v (.bool b)) ?_)
   rw [sameC, hx, hy, Bool.eq_iff_iff]; simp [ha, hb]
  ·
   simp only [List.set_cons_zero, List.set_cons_succ]
   have hb : ¬ (0 ≤ b ∧ b < (c.length : Int)) := by simpa using hc15
   refine dRun_chunk 4 fun C12 hC12 => ?_
   simp only [bL, ↓dRun, ↓dOp, ↓bO, bS, bA, bF, ↓reduceIte, Nat.reduceEqDiff, reduceCtorEq, undef, getO, aIndexA, es109, Int.natCast_nonneg, Int.ofNat_lt, Int.toNat_natCast, List.length_map, Int.le_refl, Int.toNat_zero, Int.toNat_one, Int.reduceLE, aLoad, ti3, pack, Nat.reduceAdd, Nat.reduceLeDiff, intC, gM hx, ha.1, ha.2]
   refine hC12 _ ?_; clear hC12 C12
   simp only [bL]
   refine dRun_chunk 4 fun C13 hC13 => ?_
   simp only [bL, ↓dRun, ↓dOp, ↓bO, bS, bA, bF, ↓reduceIte, Nat.reduceEqDiff, reduceCtorEq, undef, getO, aIndexA, es109, Int.natCast_nonneg, Int.ofNat_lt, Int.toNat_natCast, List.length_map, Int.le_refl, Int.toNat_zero, Int.toNat_one, Int.reduceLE, aLoad, ti3, pack, Nat.reduceAdd, Nat.reduceLeDiff, intC, gM hx, ha.1, ha.2]
   refine hC13 _ ?_; clear hC13 C13
   simp only [bL]
   simp only [↓dRun, ↓dOp, bL, ↓bO, bS, bA, bF, ↓reduceIte, Nat.reduceEqDiff, reduceCtorEq, undef, aBin, aBool, List.length_map, intC, gM hx, ha.1, ha.2]
   refine hK3 _ ?_; try clear hK3 K3
   simp only [bL]
   simp only [↓bO, bS, bA, bF, ↓reduceIte, Nat.reduceEqDiff, reduceCtorEq, List.length_map, intC, bL, gM hx, ha.1, ha.2]
   refine hK2 _ ?_; try clear hK2 K2
   refine AWp_ret ?_
   try simp only [bF, retQ, aRes, tupOf, bS, bA]
   refine Le.of_eq (congrArg (fun b => AV.v (.bool b)) ?_)
   rw [sameC, decide_eq_false (fun h => hb h.2.1)]
 ·
  simp only [List.set_cons_zero, List.set_cons_succ]
  have ha : ¬ (0 ≤ a ∧ a < (c.length : Int)) := by simpa using hc10
  refine dRun_chunk 4 fun C14 hC14 => ?_
  simp only [bL, ↓dRun, ↓dOp, ↓bO, bS, bA, bF, ↓reduceIte, Nat.reduceEqDiff, reduceCtorEq, undef, aCallV, aBool, List.length_map, intC]
  refine hC14 _ ?_; clear hC14 C14
  simp only [bL]
  refine dRun_chunk 4 fun C15 hC15 => ?_
  simp only [bL, ↓dRun, ↓dOp, ↓bO, bS, bA, bF, ↓reduceIte, Nat.reduceEqDiff, reduceCtorEq, undef, getO, aIndexA, es109, Int.natCast_nonneg, Int.ofNat_lt, Int.toNat_natCast, List.length_map, Int.le_refl, Int.toNat_zero, Int.toNat_one, Int.reduceLE, intC]
  refine hC15 _ ?_; clear hC15 C15
  simp only [bL]
  refine dRun_chunk 4 fun C16 hC16 => ?_
  simp only [bL, ↓dRun, ↓dOp, ↓bO, bS, bA, bF, ↓reduceIte, Nat.reduceEqDiff, reduceCtorEq, undef, aLoad, ti3, getO, pack, Nat.reduceAdd, Nat.reduceLeDiff, aIndexA, es109, Int.natCast_nonneg, Int.ofNat_lt, Int.toNat_natCast, List.length_map, Int.le_refl, Int.toNat_zero, Int.toNat_one, Int.reduceLE, intC]
  refine hC16 _ ?_; clear hC16 C16
  simp only [bL]
  simp only [↓dRun, ↓dOp, bL, ↓bO, bS, bA, bF, ↓reduceIte, Nat.reduceEqDiff, reduceCtorEq, undef, aLoad, ti3, getO, pack, Nat.reduceAdd, Nat.reduceLeDiff, aBin, aBool, List.length_map, intC]
  refine hK3 _ ?_; try clear hK3 K3
  simp only [bL]
  simp only [↓bO, bS, bA, bF, ↓reduceIte, Nat.reduceEqDiff, reduceCtorEq, List.length_map, intC, bL]
  refine hK2 _ ?_; try clear hK2 K2
  refine AWp_ret ?_
  try simp only [bF, retQ, aRes, tupOf, bS, bA]
  refine Le.of_eq (congrArg (fun b => AV.v (.bool b)) ?_)
  rw [sameC, decide_eq_false (fun h => ha h.1)]
theorem SNew_pure (n : Nat) (hn : n ≤ 1048576) : APure Try.prog 96 [.v (.int .i64 (n : Int))] (.sl 1 ((rangeC n).map intC)) := by
 refine APure.mkL (.cons (.v _) .nil) (dataInts _) ?_
 refine ACalls_intro Try.func96 (by kernel_rfl) rfl (by rw [Try.ntmps96]; simp) (fun hm => ?_)
 simp only [Try.ntmps96, Try.results96, List.length_cons, List.length_nil, Nat.reduceAdd, Nat.reduceSub, List.replicate_succ, List.replicate_zero, List.cons_append, List.nil_append]
 refine AWp_seqK fun K1 hK1 => ?_
 refine AWp_region ?_
 simp only [↓bO, bS, bA, bF, ↓reduceIte, Nat.reduceEqDiff, reduceCtorEq, tyX]
 refine hK1 _ ?_; try clear hK1 K1
 refine AWp_seqK fun K2 hK2 => ?_
 refine AWp_region ?_
 simp only [↓bO, bS, bA, bF, ↓reduceIte, Nat.reduceEqDiff, reduceCtorEq, tyX]
 refine hK2 _ ?_; try clear hK2 K2
 refine AWp_seqK fun K3 hK3 => ?_
 refine AWp_seqK fun K4 hK4 => ?_
 refine AWp_region ?_
 simp only [↓bO, bS, bA, bF, ↓reduceIte, Nat.reduceEqDiff, reduceCtorEq, tyX]
 refine hK4 _ ?_; try clear hK4 K4
 refine AWp_block ?_
 refine AWp_weak (Weak.tokSlot 3 3 1 rfl) ?_
 simp only [List.set_cons_zero, List.set_cons_succ]
 refine AWp_loopM (σ := Nat) [true, false, false, true, true, false, false, false, false, false, false, false, false, false, false] (fun s => s ≤ n) (fun s => [(3, .osl 0 1 (((rangeC n).take s).map intC)), (4, .v (.int .i64 (s : Int)))]) (fun s => [(0, .tok 3 1 s)]) (fun s => n - s) 0 (by omega) ?_ (fun s hs => ?_)
 ·
  simp only [maskL, setsL, putsO, putO, bA, Nat.reduceEqDiff, ↓reduceIte, bL]
  exact Weak.mk (by simp only [LeL, Le.refl, Le.any, Le.slNil, and_self, Int.natCast_add, Int.cast_ofNat_Int, Int.natCast_one]) (fun _ _ h => h) rfl rfl
 simp only [maskL, setsL, putsO, putO, bA, Nat.reduceEqDiff, ↓reduceIte]
 refine AWp_seqK fun K5 hK5 => ?_
 refine AWp_seqK fun K6 hK6 => ?_
 refine AWp_region ?_
 refine aops_chunk 2 fun C7 hC7 => ?_
 simp only [bL, ↓bO, bS, bA, bF, ↓reduceIte, Nat.reduceEqDiff, reduceCtorEq, tyX]
 refine hC7 _ ?_; clear hC7 C7
 simp only [bL]
 simp only [↓bO, bS, bA, bF, ↓reduceIte, Nat.reduceEqDiff, reduceCtorEq, aBin, tyX]
 refine hK6 _ ?_; try clear hK6 K6
 refine AWp_cond rfl (fun hb7 => ?_) (fun hb7 => ?_)
 ·
  have hk : s < n := by simpa using hb7
  have hr := rangeC_at hk
  have hw : IntKind.i64.wrap ((s : Int) + 1) = (s : Int) + 1 := wrap_in (by omega) (by omega)
  have hln : (((rangeC n).take s).map intC).length = s := by simp [rangeC]; omega
  have hb1 : (s + 1) * 8 ≤ 140737488355328 := by omega
  have hb2 : s + 1 ≤ maxLen := by simp only [maxLen]; omega
  refine AWp_skip ?_
  try simp only [bF]
  refine hK5 _ ?_; try clear hK5 K5
  refine AWp_seqK fun K8 hK8 => ?_
  refine AWp_block ?_
  refine AWp_region ?_
  refine aops_chunk 2 fun C9 hC9 => ?_
  simp only [bL, ↓bO, bS, bA, bF, ↓reduceIte, Nat.reduceEqDiff, reduceCtorEq, tyX, hk, intC, Int.natCast_add, Int.natCast_one, hw, hln, hb1, hb2, take_map_step intC hr]
  refine hC9 _ ?_; clear hC9 C9
  simp only [bL]
  refine aops_chunk 2 fun C10 hC10 => ?_
  simp only [bL, ↓bO, bS, bA, bF, ↓reduceIte, Nat.reduceEqDiff, reduceCtorEq, ↓bs1_1, ↓bs1_2, ↓bs1_3, ↓bs1_4, ↓bs1_5, ↓bs1_6, ↓bs1_7, ↓bs1_8, ↓bs1_9, ↓bs1_10, ↓bs1_11, ↓bs1_12, aBuildSl, ei109, ia3, List.range_succ, List.range_zero, List.forall_mem_cons, List.not_mem_nil, false_imp_iff, implies_true, Nat.reduceAdd, Nat.reduceLeDiff, forall_eq, List.mem_singleton, aAppend, slIn, slAt, slOf, List.length_map, getO, putO, tyX, hk, intC, Int.natCast_add, Int.natCast_one, hw, hln, hb1, hb2, take_map_step intC hr]
  refine hC10 _ ?_; clear hC10 C10
  simp only [bL]
  simp only [↓bO, bS, bA, bF, ↓reduceIte, Nat.reduceEqDiff, reduceCtorEq, tyX, hk, intC, Int.natCast_add, Int.natCast_one, hw, hln, hb1, hb2, take_map_step intC hr]
  refine hK8 _ ?_; try clear hK8 K8
  refine AWp_region ?_
  refine aops_chunk 2 fun C11 hC11 => ?_
  simp only [bL, ↓bO, bS, bA, bF, ↓reduceIte, Nat.reduceEqDiff, reduceCtorEq, aBin, tyX, hk, intC, Int.natCast_add, Int.natCast_one, hw, hln, hb1, hb2, take_map_step intC hr]
  refine hC11 _ ?_; clear hC11 C11
  simp only [bL]
  simp only [↓bO, bS, bA, bF, ↓reduceIte, Nat.reduceEqDiff, reduceCtorEq, tyX, hk, intC, Int.natCast_add, Int.natCast_one, hw, hln, hb1, hb2, take_map_step intC hr]
  refine ⟨(s + 1), (by omega), by omega, ?_⟩
  simp only [maskL, setsL, putsO, putO, bA, Nat.reduceEqDiff, ↓reduceIte, hk, intC, Int.natCast_add, Int.natCast_one, hw, hln, hb1, hb2, take_map_step intC hr]
  exact Weak.mk (by simp only [LeL, Le.refl, Le.any, Le.slNil, and_self, Int.natCast_add, Int.cast_ofNat_Int, Int.natCast_one]) (fun _ _ h => h) rfl rfl
 ·
  have hk : s = n := by simp at hb7; omega
  refine AWp_exit ?_
  simp only [bF, bA, Nat.reduceEqDiff, ↓reduceIte]
  refine hK3 _ ?_; try clear hK3 K3
  refine AWp_seqK fun K12 hK12 => ?_
  refine AWp_region ?_
  simp only [↓bO, bS, bA, bF, ↓reduceIte, Nat.reduceEqDiff, reduceCtorEq, tyX]
  refine hK12 _ ?_; try clear hK12 K12
  refine AWp_ret ?_
  try simp only [bF, retQ, aRes, tupOf, bS, bA]
  rw [hk, List.take_of_length_le (by simp [rangeC])]; exact Le.oslL
theorem joinC_ex {c : List Int} {a b : Nat} (ha : a < c.length) (hb : b < c.length) : ∃ (z y : Int) (J : List Int), c[a]? = some z ∧ c[b]? = some y ∧ joinC c a b = J ∧ J.length = c.length ∧ ∀ (s : Nat) (x : Int), c[s]? = some x → J[s]? = some (if x = y then z else x) :=
  ⟨_, _, _, List.getElem?_eq_getElem ha, List.getElem?_eq_getElem hb, rfl, joinC_len _ _ _, fun _ _ hx => joinC_at hx (List.getElem?_eq_getElem hb) (List.getElem?_eq_getElem ha)⟩
theorem SJoin_pure (c : List Int) (a b : Nat) (hac : a < c.length) (hbc : b < c.length) (hlc : c.length ≤ 1048576) : APure Try.prog 97 [.sl 1 (c.map intC), .v (.int .i64 (a : Int)), .v (.int .i64 (b : Int))] (.sl 1 ((joinC c a b).map intC)) := by
 refine APure.mkL (.cons (dataInts _) (.cons (.v _) (.cons (.v _) .nil))) (dataInts _) ?_
 refine ACalls_intro Try.func97 (by kernel_rfl) rfl (by rw [Try.ntmps97]; simp) (fun hm => ?_)
 simp only [Try.ntmps97, Try.results97, List.length_cons, List.length_nil, Nat.reduceAdd, Nat.reduceSub, List.replicate_succ, List.replicate_zero, List.cons_append, List.nil_append]
 obtain ⟨z, y, J, hz, hy, hJ, hJl, hJx⟩ := joinC_ex hac hbc
 rw [hJ]
 clear hJ
 refine AWp_seqK fun K1 hK1 => ?_
 refine AWp_region ?_
 simp only [↓bO, bS, bA, bF, ↓reduceIte, Nat.reduceEqDiff, reduceCtorEq, List.length_map]
 refine hK1 _ ?_; try clear hK1 K1
 refine AWp_seqK fun K2 hK2 => ?_
 refine AWp_region ?_
 simp only [↓bO, bS, bA, bF, ↓reduceIte, Nat.reduceEqDiff, reduceCtorEq, List.length_map]
 refine hK2 _ ?_; try clear hK2 K2
 refine AWp_seqK fun K3 hK3 => ?_
 refine AWp_seqK fun K4 hK4 => ?_
 refine AWp_region ?_
 simp only [↓bO, bS, bA, bF, ↓reduceIte, Nat.reduceEqDiff, reduceCtorEq, List.length_map]
 refine hK4 _ ?_; try clear hK4 K4
 refine AWp_block ?_
 refine AWp_weak (Weak.tokSlot 7 3 1 rfl) ?_
 simp only [List.set_cons_zero, List.set_cons_succ]
 refine AWp_loopM (σ := Nat) [true, true, true, false, false, false, false, true, true, false, false, false, false, false, false, false, false, false, false, false, false, false, false, false, false, false, false, false, false, false, false, false, false, false, false] (fun s => s ≤ c.length) (fun s => [(7, .osl 0 1 ((J.take s).map intC)), (8, .v (.int .i64 (s : Int)))]) (fun s => [(0, .tok 3 1 s)]) (fun s => c.length - s) 0 (by omega) ?_ (fun s hs => ?_)
 ·
  simp only [maskL, setsL, putsO, putO, bA, Nat.reduceEqDiff, ↓reduceIte, bL]
  exact Weak.mk (by simp only [LeL, Le.refl, Le.any, Le.slNil, and_self, Int.natCast_add, Int.cast_ofNat_Int, Int.natCast_one]) (fun _ _ h => h) rfl rfl
 simp only [maskL, setsL, putsO, putO, bA, Nat.reduceEqDiff, ↓reduceIte]
 refine AWp_seqK fun K5 hK5 => ?_
 refine AWp_seqK fun K6 hK6 => ?_
 refine AWp_region ?_
 refine aops_chunk 2 fun C7 hC7 => ?_
 simp only [bL, ↓bO, bS, bA, bF, ↓reduceIte, Nat.reduceEqDiff, reduceCtorEq, List.length_map]
 refine hC7 _ ?_; clear hC7 C7
 simp only [bL]
 simp only [↓bO, bS, bA, bF, ↓reduceIte, Nat.reduceEqDiff, reduceCtorEq, getO, aLenX, aLen, ln109, List.length_map, aBin]
 refine hK6 _ ?_; try clear hK6 K6
 refine AWp_cond rfl (fun hb13 => ?_) (fun hb13 => ?_)
 ·
  have hk : s < c.length := by simpa using hb13
  obtain ⟨x, hx⟩ : ∃ x, c[s]? = some x := ⟨_, List.getElem?_eq_getElem hk⟩
  have hr := hJx s x hx
  have hw : IntKind.i64.wrap ((s : Int) + 1) = (s : Int) + 1 := wrap_in (by omega) (by omega)
  have hln : (J.take s).length = s := by simp; omega
  have hb1 : (s + 1) * 8 ≤ 140737488355328 := by omega
  have hb2 : s + 1 ≤ maxLen := by simp only [maxLen]; omega
  refine AWp_skip ?_
  try simp only [bF]
  refine hK5 _ ?_; try clear hK5 K5
  refine AWp_seqK fun K8 hK8 => ?_
  refine AWp_block ?_
  refine AWp_seqK fun K9 hK9 => ?_
  refine AWp_region ?_
  refine aops_chunk 2 fun C10 hC10 => ?_
  simp only [bL, ↓bO, bS, bA, bF, ↓reduceIte, Nat.reduceEqDiff, reduceCtorEq, List.length_map, hk, intC, gM hx, gM hy, gM hz, Int.natCast_add, Int.natCast_one, hw, hln, hb1, hb2, hac, hbc]
  refine hC10 _ ?_; clear hC10 C10
  simp only [bL]
  refine aops_chunk 2 fun C11 hC11 => ?_
  simp only [bL, ↓bO, bS, bA, bF, ↓reduceIte, Nat.reduceEqDiff, reduceCtorEq, getO, aIndexA, es109, Int.natCast_nonneg, Int.ofNat_lt, Int.toNat_natCast, List.length_map, Int.le_refl, Int.toNat_zero, Int.toNat_one, Int.reduceLE, aLoad, ti3, pack, Nat.reduceAdd, Nat.reduceLeDiff, hk, intC, gM hx, gM hy, gM hz, Int.natCast_add, Int.natCast_one, hw, hln, hb1, hb2, hac, hbc]
  refine hC11 _ ?_; clear hC11 C11
  simp only [bL]
  simp only [↓bO, bS, bA, bF, ↓reduceIte, Nat.reduceEqDiff, reduceCtorEq, List.length_map, hk, intC, gM hx, gM hy, gM hz, Int.natCast_add, Int.natCast_one, hw, hln, hb1, hb2, hac, hbc]
  refine hK9 _ ?_; try clear hK9 K9
  refine AWp_seqK fun K12 hK12 => ?_
  refine AWp_seqK fun K13 hK13 => ?_
  refine AWp_region ?_
  refine aops_chunk 2 fun C14 hC14 => ?_
  simp only [bL, ↓bO, bS, bA, bF, ↓reduceIte, Nat.reduceEqDiff, reduceCtorEq, List.length_map, hk, intC, gM hx, gM hy, gM hz, Int.natCast_add, Int.natCast_one, hw, hln, hb1, hb2, hac, hbc]
  refine hC14 _ ?_; clear hC14 C14
  simp only [bL]
  refine aops_chunk 2 fun C15 hC15 => ?_
  simp only [bL, ↓bO, bS, bA, bF, ↓reduceIte, Nat.reduceEqDiff, reduceCtorEq, getO, aIndexA, es109, Int.natCast_nonneg, Int.ofNat_lt, Int.toNat_natCast, List.length_map, Int.le_refl, Int.toNat_zero, Int.toNat_one, Int.reduceLE, hk, intC, gM hx, gM hy, gM hz, Int.natCast_add, Int.natCast_one, hw, hln, hb1, hb2, hac, hbc]
  refine hC15 _ ?_; clear hC15 C15
  simp only [bL]
  simp only [↓bO, bS, bA, bF, ↓reduceIte, Nat.reduceEqDiff, reduceCtorEq, aLoad, ti3, getO, pack, bL, Nat.reduceAdd, Nat.reduceLeDiff, aBin, List.length_map, hk, intC, gM hx, gM hy, gM hz, Int.natCast_add, Int.natCast_one, hw, hln, hb1, hb2, hac, hbc]
  refine hK13 _ ?_; try clear hK13 K13
  refine AWp_cond rfl (fun hb25 => ?_) (fun hb25 => ?_)
  ·
   have he : x = y := by simpa using hb25
   rw [if_pos he] at hr
   refine AWp_region ?_
   refine aops_chunk 2 fun C16 hC16 => ?_
   simp only [bL, ↓bO, bS, bA, bF, ↓reduceIte, Nat.reduceEqDiff, reduceCtorEq, List.length_map, hk, intC, gM hx, gM hy, gM hz, Int.natCast_add, Int.natCast_one, hw, hln, hb1, hb2, hac, hbc, take_map_step intC hr]
   refine hC16 _ ?_; clear hC16 C16
   simp only [bL]
   refine aops_chunk 2 fun C17 hC17 => ?_
   simp only [bL, ↓bO, bS, bA, bF, ↓reduceIte, Nat.reduceEqDiff, reduceCtorEq, getO, aIndexA, es109, Int.natCast_nonneg, Int.ofNat_lt, Int.toNat_natCast, List.length_map, Int.le_refl, Int.toNat_zero, Int.toNat_one, Int.reduceLE, aLoad, ti3, pack, Nat.reduceAdd, Nat.reduceLeDiff, hk, intC, gM hx, gM hy, gM hz, Int.natCast_add, Int.natCast_one, hw, hln, hb1, hb2, hac, hbc, take_map_step intC hr]
   refine hC17 _ ?_; clear hC17 C17
   simp only [bL]
   simp only [↓bO, bS, bA, bF, ↓reduceIte, Nat.reduceEqDiff, reduceCtorEq, List.length_map, hk, intC, gM hx, gM hy, gM hz, Int.natCast_add, Int.natCast_one, hw, hln, hb1, hb2, hac, hbc, take_map_step intC hr]
   refine hK12 _ ?_; try clear hK12 K12
   refine AWp_region ?_
   refine aops_chunk 2 fun C18 hC18 => ?_
   simp only [bL, ↓bO, bS, bA, bF, ↓reduceIte, Nat.reduceEqDiff, reduceCtorEq, List.length_map, hk, intC, gM hx, gM hy, gM hz, Int.natCast_add, Int.natCast_one, hw, hln, hb1, hb2, hac, hbc, take_map_step intC hr]
   refine hC18 _ ?_; clear hC18 C18
   simp only [bL]
   refine aops_chunk 2 fun C19 hC19 => ?_
   simp only [bL, ↓bO, bS, bA, bF, ↓reduceIte, Nat.reduceEqDiff, reduceCtorEq, ↓bs1_1, ↓bs1_2, ↓bs1_3, ↓bs1_4, ↓bs1_5, ↓bs1_6, ↓bs1_7, ↓bs1_8, ↓bs1_9, ↓bs1_10, ↓bs1_11, ↓bs1_12, aBuildSl, ei109, ia3, List.range_succ, List.range_zero, List.forall_mem_cons, List.not_mem_nil, false_imp_iff, implies_true, Nat.reduceAdd, Nat.reduceLeDiff, forall_eq, List.mem_singleton, aAppend, slIn, slAt, slOf, List.length_map, getO, putO, hk, intC, gM hx, gM hy, gM hz, Int.natCast_add, Int.natCast_one, hw, hln, hb1, hb2, hac, hbc, take_map_step intC hr]
   refine hC19 _ ?_; clear hC19 C19
   simp only [bL]
   simp only [↓bO, bS, bA, bF, ↓reduceIte, Nat.reduceEqDiff, reduceCtorEq, List.length_map, hk, intC, gM hx, gM hy, gM hz, Int.natCast_add, Int.natCast_one, hw, hln, hb1, hb2, hac, hbc, take_map_step intC hr]
   refine hK8 _ ?_; try clear hK8 K8
   refine AWp_region ?_
   refine aops_chunk 2 fun C20 hC20 => ?_
   simp only [bL, ↓bO, bS, bA, bF, ↓reduceIte, Nat.reduceEqDiff, reduceCtorEq, aBin, List.length_map, hk, intC, gM hx, gM hy, gM hz, Int.natCast_add, Int.natCast_one, hw, hln, hb1, hb2, hac, hbc, take_map_step intC hr]
   refine hC20 _ ?_; clear hC20 C20
   simp only [bL]
   simp only [↓bO, bS, bA, bF, ↓reduceIte, Nat.reduceEqDiff, reduceCtorEq, List.length_map, hk, intC, gM hx, gM hy, gM hz, Int.natCast_add, Int.natCast_one, hw, hln, hb1, hb2, hac, hbc, take_map_step intC hr]
   refine ⟨(s + 1), (by omega), by omega, ?_⟩
   simp only [maskL, setsL, putsO, putO, bA, Nat.reduceEqDiff, ↓reduceIte, hk, intC, gM hx, gM hy, gM hz, Int.natCast_add, Int.natCast_one, hw, hln, hb1, hb2, hac, hbc, take_map_step intC hr]
   exact Weak.mk (by simp only [LeL, Le.refl, Le.any, Le.slNil, and_self, Int.natCast_add, Int.cast_ofNat_Int, Int.natCast_one]) (fun _ _ h => h) rfl rfl
  ·
   have he : ¬ x = y := by simpa using hb25
   rw [if_neg he] at hr
   refine AWp_skip ?_
   try simp only [bF]
   refine hK12 _ ?_; try clear hK12 K12
   refine AWp_region ?_
   refine aops_chunk 2 fun C21 hC21 => ?_
   simp only [bL, ↓bO, bS, bA, bF, ↓reduceIte, Nat.reduceEqDiff, reduceCtorEq, List.length_map, hk, intC, gM hx, gM hy, gM hz, Int.natCast_add, Int.natCast_one, hw, hln, hb1, hb2, hac, hbc, take_map_step intC hr]
   refine hC21 _ ?_; clear hC21 C21
   simp only [bL]
   refine aops_chunk 2 fun C22 hC22 => ?_
   simp only [bL, ↓bO, bS, bA, bF, ↓reduceIte, Nat.reduceEqDiff, reduceCtorEq, ↓bs1_1, ↓bs1_2, ↓bs1_3, ↓bs1_4, ↓bs1_5, ↓bs1_6, ↓bs1_7, ↓bs1_8, ↓bs1_9, ↓bs1_10, ↓bs1_11, ↓bs1_12, aBuildSl, ei109, ia3, List.range_succ, List.range_zero, List.forall_mem_cons, List.not_mem_nil, false_imp_iff, implies_true, Nat.reduceAdd, Nat.reduceLeDiff, forall_eq, List.mem_singleton, aAppend, slIn, slAt, slOf, List.length_map, getO, putO, hk, intC, gM hx, gM hy, gM hz, Int.natCast_add, Int.natCast_one, hw, hln, hb1, hb2, hac, hbc, take_map_step intC hr]
   refine hC22 _ ?_; clear hC22 C22
   simp only [bL]
   simp only [↓bO, bS, bA, bF, ↓reduceIte, Nat.reduceEqDiff, reduceCtorEq, List.length_map, hk, intC, gM hx, gM hy, gM hz, Int.natCast_add, Int.natCast_one, hw, hln, hb1, hb2, hac, hbc, take_map_step intC hr]
   refine hK8 _ ?_; try clear hK8 K8
   refine AWp_region ?_
   refine aops_chunk 2 fun C23 hC23 => ?_
   simp only [bL, ↓bO, bS, bA, bF, ↓reduceIte, Nat.reduceEqDiff, reduceCtorEq, aBin, List.length_map, hk, intC, gM hx, gM hy, gM hz, Int.natCast_add, Int.natCast_one, hw, hln, hb1, hb2, hac, hbc, take_map_step intC hr]
   refine hC23 _ ?_; clear hC23 C23
   simp only [bL]
   simp only [↓bO, bS, bA, bF, ↓reduceIte, Nat.reduceEqDiff, reduceCtorEq, List.length_map, hk, intC, gM hx, gM hy, gM hz, Int.natCast_add, Int.natCast_one, hw, hln, hb1, hb2, hac, hbc, take_map_step intC hr]
   refine ⟨(s + 1), (by omega), by omega, ?_⟩
   simp only [maskL, setsL, putsO, putO, bA, Nat.reduceEqDiff, ↓reduceIte, hk, intC, gM hx, gM hy, gM hz, Int.natCast_add, Int.natCast_one, hw, hln, hb1, hb2, hac, hbc, take_map_step intC hr]
   exact Weak.mk (by simp only [LeL, Le.refl, Le.any, Le.slNil, and_self, Int.natCast_add, Int.cast_ofNat_Int, Int.natCast_one]) (fun _ _ h => h) rfl rfl
 ·
  have hk : s = c.length := by simp at hb13; omega
  refine AWp_exit ?_
  simp only [bF, bA, Nat.reduceEqDiff, ↓reduceIte]
  refine hK3 _ ?_; try clear hK3 K3
  refine AWp_seqK fun K24 hK24 => ?_
  refine AWp_region ?_
  simp only [↓bO, bS, bA, bF, ↓reduceIte, Nat.reduceEqDiff, reduceCtorEq, List.length_map]
  refine hK24 _ ?_; try clear hK24 K24
  refine AWp_ret ?_
  try simp only [bF, retQ, aRes, tupOf, bS, bA]
  rw [hk, List.take_of_length_le (by omega)]; exact Le.oslL
end Go.Proofs.Ytohdoloalolpfaa
namespace Go.Proofs.Ytohdoloalolpfaa
open Go Go.RowKit
set_option maxRecDepth 100000
set_option maxHeartbeats 1000000
set_option linter.unusedSimpArgs false
set_option linter.unusedVariables false
attribute [local irreducible] aops dRun
theorem eqF_len : ∀ (l : List (Ty × Ty)) , (eqF l).2.length = l.length := by
  suffices h : ∀ (n : Nat) (l : List (Ty × Ty)), l.length = n → (eqF l).2.length = l.length from fun l => h l.length l rfl
  intro n
  induction n with
  | zero =>
    intro l hl
    have : l = [] := List.length_eq_zero_iff.1 hl
    subst this; rfl
  | succ n ih =>
    intro l hl
    have hne : l ≠ [] := fun e => by rw [e] at hl; simp at hl
    obtain ⟨d, e, rfl⟩ : ∃ d e, l = d ++ [e] := ⟨l.dropLast, l.getLast hne, (List.dropLast_concat_getLast hne).symm⟩
    rw [eqF_snoc]
    simp only [eqStep, List.length_append, List.length_cons, List.length_nil]
    rw [ih d (by simp at hl; omega)]
theorem eqF_mlen : ∀ (l : List (Ty × Ty)) , (eqF l).1.length ≤ sumP l := by
  suffices h : ∀ (n : Nat) (l : List (Ty × Ty)), l.length = n → (eqF l).1.length ≤ sumP l from fun l => h l.length l rfl
  intro n
  induction n with
  | zero =>
    intro l hl
    have : l = [] := List.length_eq_zero_iff.1 hl
    subst this; simp [eqF]
  | succ n ih =>
    intro l hl
    have hne : l ≠ [] := fun e => by rw [e] at hl; simp at hl
    obtain ⟨d, e, rfl⟩ : ∃ d e, l = d ++ [e] := ⟨l.dropLast, l.getLast hne, (List.dropLast_concat_getLast hne).symm⟩
    rw [eqF_snoc, sumP_snoc]
    simp only [eqStep]
    have h1 := ih d (by simp at hl; omega)
    have h2 := e.1.radd_len (eqF d).1
    have h3 := e.2.radd_len (e.1.radd (eqF d).1).1
    omega
theorem eqF_take {l : List (Ty × Ty)} {s : Nat} {e : Ty × Ty} (h : l[s]? = some e) : eqF (l.take (s + 1)) = ((e.2.radd (e.1.radd (eqF (l.take s)).1).1).1, (eqF (l.take s)).2 ++ [((e.1.radd (eqF (l.take s)).1).2, (e.2.radd (e.1.radd (eqF (l.take s)).1).1).2)]) := by
  rw [List.take_add_one, h]
  exact eqF_snoc _ _
theorem nat2_at {l : List (Int × Int)} {s a b : Nat} (h : l[s]? = some ((a : Int), (b : Int))) : (nat2 l)[s]? = some (a, b) := by
  simp [nat2, List.getElem?_map, h]
theorem HeldC.next {E : List (Nat × Nat)} {c : List Int} {s a b : Nat} (h : HeldC (E.take s) c) (he : E[s]? = some (a, b)) (ha : a < c.length) (hb : b < c.length) : HeldC (E.take (s + 1)) (joinC c a b) := by
  rw [List.take_add_one, he]
  intro e hm
  rcases List.mem_append.1 hm with hm | hm
  · exact h.join a b e hm
  · simp at hm; subst hm; exact joinC_same ha hb
theorem sameC_in {c : List Int} {a b : Nat} (ha : a < c.length) (hb : b < c.length) : (sameC c (a : Int) (b : Int) = true ↔ c[a]? = c[b]?) := by
  classical
  unfold sameC
  rw [decide_eq_true_eq, Int.toNat_natCast, Int.toNat_natCast]
  constructor
  · exact fun h => h.2.2
  · exact fun h => ⟨⟨by omega, by omega⟩, ⟨by omega, by omega⟩, h⟩
structure CLoop (M : List RNode) (E : List (Nat × Nat)) (c0 : List Int) (p : List Int × Bool) : Prop where
  col : Col M E p.1
  held : HeldC E p.1
  eq : p.2 = false → p.1 = c0
  lt : p.2 = true → ndC p.1 < ndC c0
theorem CLoop.le {M : List RNode} {E : List (Nat × Nat)} {c0 : List Int} {p : List Int × Bool} (h : CLoop M E c0 p) : ndC p.1 ≤ ndC c0 := by
  cases hp : p.2 with
  | false => rw [h.eq hp]; exact Nat.le_refl _
  | true => exact Nat.le_of_lt (h.lt hp)
theorem CLoop.join {M : List RNode} {E : List (Nat × Nat)} {c0 : List Int} {p : List Int × Bool} (h : CLoop M E c0 p) {a b : Nat} (ha : a < M.length) (hb : b < M.length) (hc : Cl (shR M) E a b) (hne : ¬ p.1[a]? = p.1[b]?) : CLoop M E c0 (joinC p.1 a b, true) := by
  have hl := h.col.len
  refine ⟨h.col.join ha hb hc, h.held.join a b, fun e => (by cases e), fun _ => ?_⟩
  exact Nat.lt_of_lt_of_le (ndC_join (by omega) (by omega) hne) h.le
theorem CLoop.end' {M : List RNode} {E : List (Nat × Nat)} {c0 : List Int} {p : List Int × Bool} (h : CLoop M E c0 p) : 2 * ndC p.1 + p.2.toNat < 2 * ndC c0 + 1 := by
  cases hp : p.2 with
  | false => rw [h.eq hp]; simp
  | true => have := h.lt hp; simp only [Bool.toNat_true]; omega
theorem RNode.oneData (g : List RNode) (c : List Int) : Data (.agg [.sl 4 (g.map RNode.cells), .sl 1 (c.map intC)]) := .agg (.cons (RNode.dataSl g) (.cons (dataInts c) .nil))
theorem Close_c (es : List EqT) (M : List RNode) (P : List (Int × Int)) (hF : eqF (es.map EqT.p) = (M, P)) (hsum : sumP (es.map EqT.p) ≤ 160) (hMok : MOk M) (hP : ∀ p ∈ P, (0 ≤ p.1 ∧ p.1 < (M.length : Int)) ∧ 0 ≤ p.2 ∧ p.2 < (M.length : Int)) (h8 : ∀ x ∈ M, x.parts.length ≤ 8) :
  ACalls Try.prog 70 [.sl 8 (es.map EqT.cells)] [] 0 fun r os n => (∃ c, ColF M (nat2 P) c ∧ r = .agg [.sl 4 (M.map RNode.cells), .sl 1 (c.map intC)] ∧ os = []) ∧ n = 0 := by
 refine ACalls.clean (C := fun r os => ∃ c, ColF M (nat2 P) c ∧ r = .agg [.sl 4 (M.map RNode.cells), .sl 1 (c.map intC)] ∧ os = []) ?_
 refine ACalls_intro Try.func70 (by kernel_rfl) rfl (by rw [Try.ntmps70]; simp) (fun hm => ?_)
 simp only [Try.ntmps70, Try.results70, List.length_cons, List.length_nil, Nat.reduceAdd, Nat.reduceSub, List.replicate_succ, List.replicate_zero, List.cons_append, List.nil_append]
 have hm1 := sumP_len (es.map EqT.p)
 rw [List.length_map] at hm1
 have hMl := eqF_mlen (es.map EqT.p)
 rw [hF] at hMl
 have hPl := eqF_len (es.map EqT.p)
 rw [hF, List.length_map] at hPl
 dsimp only at hMl hPl
 refine AWp_seqK fun K1 hK1 => ?_
 refine AWp_region ?_
 simp only [↓bO, bS, bA, bF, ↓reduceIte, Nat.reduceEqDiff, reduceCtorEq, zc111, bL, tyX, List.length_map]
 refine hK1 _ ?_; try clear hK1 K1
 refine AWp_seqK fun K2 hK2 => ?_
 refine AWp_region ?_
 simp only [↓bO, bS, bA, bF, ↓reduceIte, Nat.reduceEqDiff, reduceCtorEq, tyX, List.length_map]
 refine hK2 _ ?_; try clear hK2 K2
 refine AWp_seqK fun K3 hK3 => ?_
 refine AWp_region ?_
 simp only [↓bO, bS, bA, bF, ↓reduceIte, Nat.reduceEqDiff, reduceCtorEq, tyX, List.length_map]
 refine hK3 _ ?_; try clear hK3 K3
 refine AWp_seqK fun K4 hK4 => ?_
 refine AWp_seqK fun K5 hK5 => ?_
 refine AWp_region ?_
 simp only [↓bO, bS, bA, bF, ↓reduceIte, Nat.reduceEqDiff, reduceCtorEq, tyX, List.length_map]
 refine hK5 _ ?_; try clear hK5 K5
 refine AWp_block ?_
 refine AWp_weak (Weak.tokSlot 4 120 2 rfl) ?_
 simp only [List.set_cons_zero, List.set_cons_succ]
 refine AWp_loopM (σ := Nat) [true, false, true, true, true, true, false, false, false, false, false, false, false, false, false, false, false, false, false, false, false, false, false, false, false, false, false, false, false, false, false, false, false, false, false, false, false, false, false, false, false, false, false, false, false, false, false, false, false, false, false, false, false, false, false, false, false, false, false, false, false, false, false, false, false, false, false, false, false, false, false, false, false, false, false, false, false, false, false, false, false, false, false, false, false, false, false, false, false, false, false, false, false, false, false, false, false, false, false, false, false, false, false, false, false, false, false, false, false, false, false, false, false, false, false, false, false, false, false, false, false, false, false, false, false, false, false, false, false, false, false, false, false, false, false, false, false, false, false, false, false, false, false, false, false, false, false, false, false, false, false, false, false, false, false, false, false, false, false, false, false, false, false, false, false, false, false, false, false, false, false, false, false, false, false, false, false, false, false] (fun s => s ≤ es.length) (fun s => [(3, .sl 4 ((eqF ((es.map EqT.p).take s)).1.map RNode.cells)), (4, .osl 1 2 ((eqF ((es.map EqT.p).take s)).2.map pC)), (5, .v (.int .i64 (s : Int)))]) (fun s => [(1, .tok 120 2 s)]) (fun s => es.length - s) 0 (by omega) ?_ (fun s hs => ?_)
 ·
  simp only [maskL, setsL, putsO, putO, bA, Nat.reduceEqDiff, ↓reduceIte, bL, eqF, List.foldl_nil]
  exact Weak.mk (by simp only [LeL, Le.refl, Le.any, Le.slNil, and_self, Int.natCast_add, Int.cast_ofNat_Int, Int.natCast_one]) (fun _ _ h => h) rfl rfl
 simp only [maskL, setsL, putsO, putO, bA, Nat.reduceEqDiff, ↓reduceIte]
 refine AWp_seqK fun K6 hK6 => ?_
 refine AWp_seqK fun K7 hK7 => ?_
 refine AWp_region ?_
 refine aops_chunk 2 fun C8 hC8 => ?_
 simp only [bL, ↓bO, bS, bA, bF, ↓reduceIte, Nat.reduceEqDiff, reduceCtorEq, tyX, List.length_map]
 refine hC8 _ ?_; clear hC8 C8
 simp only [bL]
 simp only [↓bO, bS, bA, bF, ↓reduceIte, Nat.reduceEqDiff, reduceCtorEq, getO, aLenX, aLen, ln61, List.length_map, aBin, tyX]
 refine hK7 _ ?_; try clear hK7 K7
 refine AWp_cond rfl (fun hb18 => ?_) (fun hb18 => ?_)
 ·
  have hk : s < es.length := by simpa using hb18
  obtain ⟨e, he⟩ : ∃ e, es[s]? = some e := ⟨_, List.getElem?_eq_getElem hk⟩
  have hep : (es.map EqT.p)[s]? = some e.p := by rw [List.getElem?_map, he]; rfl
  have hEs := eqF_take hep
  have hst := sumP_take (es.map EqT.p) (s + 1)
  rw [List.take_add_one, hep] at hst
  rw [show (some e.p).toList = [e.p] from rfl, sumP_snoc] at hst
  simp only [EqT.p] at hst hEs
  have hml := eqF_mlen ((es.map EqT.p).take s)
  have hrl := e.l.radd_len (eqF ((es.map EqT.p).take s)).1
  have hw : IntKind.i64.wrap ((s : Int) + 1) = (s : Int) + 1 := wrap_in (by omega) (by omega)
  have hln : (eqF ((es.map EqT.p).take s)).2.length = s := by rw [eqF_len]; simp; omega
  have hb1 : (s + 1) * 16 ≤ 140737488355328 := by omega
  have hb2 : s + 1 ≤ maxLen := by simp only [maxLen]; omega
  refine AWp_skip ?_
  try simp only [bF]
  refine hK6 _ ?_; try clear hK6 K6
  refine AWp_seqK fun K9 hK9 => ?_
  refine AWp_block ?_
  refine AWp_seqK fun K10 hK10 => ?_
  refine AWp_region ?_
  refine aops_chunk 2 fun C11 hC11 => ?_
  simp only [bL, ↓bO, bS, bA, bF, ↓reduceIte, Nat.reduceEqDiff, reduceCtorEq, tyX, List.length_map, hk, gM he, EqT.cells, Ty.refold, hw, hln, hb1, hb2, Int.natCast_add, Int.natCast_one, Int.cast_ofNat_Int, intC]
  refine hC11 _ ?_; clear hC11 C11
  simp only [bL]
  refine aops_chunk 2 fun C12 hC12 => ?_
  simp only [bL, ↓bO, bS, bA, bF, ↓reduceIte, Nat.reduceEqDiff, reduceCtorEq, getO, aIndexA, es61, Int.natCast_nonneg, Int.ofNat_lt, Int.toNat_natCast, List.length_map, Int.le_refl, Int.toNat_zero, Int.toNat_one, Int.reduceLE, tyX, hk, gM he, EqT.cells, Ty.refold, hw, hln, hb1, hb2, Int.natCast_add, Int.natCast_one, Int.cast_ofNat_Int, intC]
  refine hC12 _ ?_; clear hC12 C12
  simp only [bL]
  refine aops_chunk 2 fun C13 hC13 => ?_
  simp only [bL, ↓bO, bS, bA, bF, ↓reduceIte, Nat.reduceEqDiff, reduceCtorEq, aField, fo73_0, Nat.reduceAdd, aLoad, ti32, getO, pack, Nat.reduceLeDiff, tyX, List.length_map, hk, gM he, EqT.cells, Ty.refold, hw, hln, hb1, hb2, Int.natCast_add, Int.natCast_one, Int.cast_ofNat_Int, intC]
  refine hC13 _ ?_; clear hC13 C13
  simp only [bL]
  refine aops_chunk 1 fun C14 hC14 => ?_
  simp only [bL, ↓bO, bS, bA, bF, ↓reduceIte, Nat.reduceEqDiff, reduceCtorEq, aCallV, tyX, List.length_map, hk, gM he, EqT.cells, Ty.refold, hw, hln, hb1, hb2, Int.natCast_add, Int.natCast_one, Int.cast_ofNat_Int, intC]
  refine APure.call (RAdd_pure e.l (eqF ((es.map EqT.p).take s)).1 (by omega)) ?_
  try simp only [bS, bA, bF]
  refine hC14 _ ?_; clear hC14 C14
  simp only [bL]
  refine aops_chunk 2 fun C15 hC15 => ?_
  simp only [bL, ↓bO, bS, bA, bF, ↓reduceIte, Nat.reduceEqDiff, reduceCtorEq, aExtract, Nat.reduceAdd, Nat.reduceLT, Nat.zero_lt_succ, tyX, List.length_map, hk, gM he, EqT.cells, Ty.refold, hw, hln, hb1, hb2, Int.natCast_add, Int.natCast_one, Int.cast_ofNat_Int, intC]
  refine hC15 _ ?_; clear hC15 C15
  simp only [bL]
  refine aops_chunk 2 fun C16 hC16 => ?_
  simp only [bL, ↓bO, bS, bA, bF, ↓reduceIte, Nat.reduceEqDiff, reduceCtorEq, aExtract, Nat.reduceAdd, Nat.reduceLT, Nat.zero_lt_succ, tyX, List.length_map, hk, gM he, EqT.cells, Ty.refold, hw, hln, hb1, hb2, Int.natCast_add, Int.natCast_one, Int.cast_ofNat_Int, intC]
  refine hC16 _ ?_; clear hC16 C16
  simp only [bL]
  simp only [↓bO, bS, bA, bF, ↓reduceIte, Nat.reduceEqDiff, reduceCtorEq, tyX, List.length_map, hk, gM he, EqT.cells, Ty.refold, hw, hln, hb1, hb2, Int.natCast_add, Int.natCast_one, Int.cast_ofNat_Int, intC]
  refine hK10 _ ?_; try clear hK10 K10
  refine AWp_seqK fun K17 hK17 => ?_
  refine AWp_region ?_
  refine aops_chunk 2 fun C18 hC18 => ?_
  simp only [bL, ↓bO, bS, bA, bF, ↓reduceIte, Nat.reduceEqDiff, reduceCtorEq, tyX, List.length_map, hk, gM he, EqT.cells, Ty.refold, hw, hln, hb1, hb2, Int.natCast_add, Int.natCast_one, Int.cast_ofNat_Int, intC]
  refine hC18 _ ?_; clear hC18 C18
  simp only [bL]
  refine aops_chunk 2 fun C19 hC19 => ?_
  simp only [bL, ↓bO, bS, bA, bF, ↓reduceIte, Nat.reduceEqDiff, reduceCtorEq, getO, aIndexA, es61, Int.natCast_nonneg, Int.ofNat_lt, Int.toNat_natCast, List.length_map, Int.le_refl, Int.toNat_zero, Int.toNat_one, Int.reduceLE, tyX, hk, gM he, EqT.cells, Ty.refold, hw, hln, hb1, hb2, Int.natCast_add, Int.natCast_one, Int.cast_ofNat_Int, intC]
  refine hC19 _ ?_; clear hC19 C19
  simp only [bL]
  refine aops_chunk 2 fun C20 hC20 => ?_
  simp only [bL, ↓bO, bS, bA, bF, ↓reduceIte, Nat.reduceEqDiff, reduceCtorEq, aField, fo73_1, Nat.reduceAdd, aLoad, ti32, getO, pack, Nat.reduceLeDiff, tyX, List.length_map, hk, gM he, EqT.cells, Ty.refold, hw, hln, hb1, hb2, Int.natCast_add, Int.natCast_one, Int.cast_ofNat_Int, intC]
  refine hC20 _ ?_; clear hC20 C20
  simp only [bL]
  refine aops_chunk 1 fun C21 hC21 => ?_
  simp only [bL, ↓bO, bS, bA, bF, ↓reduceIte, Nat.reduceEqDiff, reduceCtorEq, aCallV, tyX, List.length_map, hk, gM he, EqT.cells, Ty.refold, hw, hln, hb1, hb2, Int.natCast_add, Int.natCast_one, Int.cast_ofNat_Int, intC]
  refine APure.call (RAdd_pure e.r (e.l.radd (eqF ((es.map EqT.p).take s)).1).1 (by omega)) ?_
  try simp only [bS, bA, bF]
  refine hC21 _ ?_; clear hC21 C21
  simp only [bL]
  refine aops_chunk 2 fun C22 hC22 => ?_
  simp only [bL, ↓bO, bS, bA, bF, ↓reduceIte, Nat.reduceEqDiff, reduceCtorEq, aExtract, Nat.reduceAdd, Nat.reduceLT, Nat.zero_lt_succ, tyX, List.length_map, hk, gM he, EqT.cells, Ty.refold, hw, hln, hb1, hb2, Int.natCast_add, Int.natCast_one, Int.cast_ofNat_Int, intC]
  refine hC22 _ ?_; clear hC22 C22
  simp only [bL]
  refine aops_chunk 2 fun C23 hC23 => ?_
  simp only [bL, ↓bO, bS, bA, bF, ↓reduceIte, Nat.reduceEqDiff, reduceCtorEq, aExtract, Nat.reduceAdd, Nat.reduceLT, Nat.zero_lt_succ, tyX, List.length_map, hk, gM he, EqT.cells, Ty.refold, hw, hln, hb1, hb2, Int.natCast_add, Int.natCast_one, Int.cast_ofNat_Int, intC]
  refine hC23 _ ?_; clear hC23 C23
  simp only [bL]
  simp only [↓bO, bS, bA, bF, ↓reduceIte, Nat.reduceEqDiff, reduceCtorEq, tyX, List.length_map, hk, gM he, EqT.cells, Ty.refold, hw, hln, hb1, hb2, Int.natCast_add, Int.natCast_one, Int.cast_ofNat_Int, intC]
  refine hK17 _ ?_; try clear hK17 K17
  refine AWp_seqK fun K24 hK24 => ?_
  refine AWp_region ?_
  simp only [↓bO, bS, bA, bF, ↓reduceIte, Nat.reduceEqDiff, reduceCtorEq, tyX, List.length_map, hk, gM he, EqT.cells, Ty.refold, hw, hln, hb1, hb2, Int.natCast_add, Int.natCast_one, Int.cast_ofNat_Int, intC]
  refine hK24 _ ?_; try clear hK24 K24
  refine AWp_region ?_
  refine aops_chunk 2 fun C25 hC25 => ?_
  simp only [bL, ↓bO, bS, bA, bF, ↓reduceIte, Nat.reduceEqDiff, reduceCtorEq, tyX, List.length_map, hk, gM he, EqT.cells, Ty.refold, hw, hln, hb1, hb2, Int.natCast_add, Int.natCast_one, Int.cast_ofNat_Int, intC]
  refine hC25 _ ?_; clear hC25 C25
  simp only [bL]
  refine aops_chunk 2 fun C26 hC26 => ?_
  simp only [bL, ↓bO, bS, bA, bF, ↓reduceIte, Nat.reduceEqDiff, reduceCtorEq, aBuild, zc120, pc120, aFill, splice, Nat.reduceAdd, Nat.reduceLeDiff, tyX, List.length_map, hk, gM he, EqT.cells, Ty.refold, hw, hln, hb1, hb2, Int.natCast_add, Int.natCast_one, Int.cast_ofNat_Int, intC]
  refine hC26 _ ?_; clear hC26 C26
  simp only [bL]
  refine aops_chunk 2 fun C27 hC27 => ?_
  simp only [bL, ↓bO, bS, bA, bF, ↓reduceIte, Nat.reduceEqDiff, reduceCtorEq, ↓bs1_1, ↓bs1_2, ↓bs1_3, ↓bs1_4, ↓bs1_5, ↓bs1_6, ↓bs1_7, ↓bs1_8, ↓bs1_9, ↓bs1_10, ↓bs1_11, ↓bs1_12, aBuildSl, ei121, ia120, List.range_succ, List.range_zero, List.forall_mem_cons, List.not_mem_nil, false_imp_iff, implies_true, Nat.reduceAdd, Nat.reduceLeDiff, forall_eq, List.mem_singleton, aAppend, slIn, slAt, slOf, List.length_map, getO, putO, tyX, hk, gM he, EqT.cells, Ty.refold, hw, hln, hb1, hb2, Int.natCast_add, Int.natCast_one, Int.cast_ofNat_Int, intC]
  refine hC27 _ ?_; clear hC27 C27
  simp only [bL]
  simp only [↓bO, bS, bA, bF, ↓reduceIte, Nat.reduceEqDiff, reduceCtorEq, tyX, List.length_map, hk, gM he, EqT.cells, Ty.refold, hw, hln, hb1, hb2, Int.natCast_add, Int.natCast_one, Int.cast_ofNat_Int, intC]
  refine hK9 _ ?_; try clear hK9 K9
  refine AWp_region ?_
  refine aops_chunk 2 fun C28 hC28 => ?_
  simp only [bL, ↓bO, bS, bA, bF, ↓reduceIte, Nat.reduceEqDiff, reduceCtorEq, aBin, tyX, List.length_map, hk, gM he, EqT.cells, Ty.refold, hw, hln, hb1, hb2, Int.natCast_add, Int.natCast_one, Int.cast_ofNat_Int, intC]
  refine hC28 _ ?_; clear hC28 C28
  simp only [bL]
  simp only [↓bO, bS, bA, bF, ↓reduceIte, Nat.reduceEqDiff, reduceCtorEq, tyX, List.length_map, hk, gM he, EqT.cells, Ty.refold, hw, hln, hb1, hb2, Int.natCast_add, Int.natCast_one, Int.cast_ofNat_Int, intC]
  refine ⟨(s + 1), (by omega), by omega, ?_⟩
  simp only [maskL, setsL, putsO, putO, List.set_cons_zero, List.set_cons_succ, Nat.reduceEqDiff, ↓reduceIte, Int.natCast_add, Int.natCast_one, Int.cast_ofNat_Int, hln]
  refine Weak.sub ?_ ⟨rfl, rfl, trivial⟩ (by first | omega | (simp only; omega)) (by first | omega | (simp only; omega)) ?_ ?_
  ·
   simp only [EqT.p] at hEs ⊢
   simp only [LeL, Le.refl, Le.any, and_self, and_true, true_and, hEs, List.map_append, List.map_cons, List.map_nil, pC]
  · repeat' first | exact trivial | exact .any _ | exact .ptr (by omega) | exact .v _ _ | exact Und.oslP (by omega) | exact Und.data (EqT.dataSl _) | exact Und.data (RNode.dataSl _) | exact Und.data (dataInts _) | (refine ⟨?_, ?_⟩)
  · exact ⟨by omega, trivial, by omega, ⟨.v _ _, .v _ _, trivial⟩, trivial⟩
 ·
  have hk : s = es.length := by simp at hb18; omega
  subst hk
  rw [List.take_of_length_le (by simp), hF]
  dsimp only
  refine AWp_exit ?_
  simp only [bF, bA, Nat.reduceEqDiff, ↓reduceIte]
  refine hK4 _ ?_; try clear hK4 K4
  refine AWp_seqK fun K29 hK29 => ?_
  refine AWp_region ?_
  refine aops_chunk 2 fun C30 hC30 => ?_
  simp only [bL, ↓bO, bS, bA, bF, ↓reduceIte, Nat.reduceEqDiff, reduceCtorEq, getO, aLenX, aLen, ln27, List.length_map, tyX]
  refine hC30 _ ?_; clear hC30 C30
  simp only [bL]
  refine aops_chunk 1 fun C31 hC31 => ?_
  simp only [bL, ↓bO, bS, bA, bF, ↓reduceIte, Nat.reduceEqDiff, reduceCtorEq, aCallV, tyX, List.length_map]
  refine APure.call (SNew_pure M.length (by omega)) ?_
  try simp only [bS, bA, bF]
  refine hC31 _ ?_; clear hC31 C31
  simp only [bL]
  simp only [↓bO, bS, bA, bF, ↓reduceIte, Nat.reduceEqDiff, reduceCtorEq, tyX, List.length_map]
  refine hK29 _ ?_; try clear hK29 K29
  refine AWp_seqK fun K32 hK32 => ?_
  refine AWp_seqK fun K33 hK33 => ?_
  refine AWp_region ?_
  simp only [↓bO, bS, bA, bF, ↓reduceIte, Nat.reduceEqDiff, reduceCtorEq, tyX, List.length_map]
  refine hK33 _ ?_; try clear hK33 K33
  refine AWp_block ?_
  refine AWp_loopM (σ := List Int × Nat) [false, false, true, true, true, false, false, false, false, true, true, false, false, false, false, false, false, false, false, false, false, false, false, false, false, false, false, false, false, false, false, false, false, false, false, false, false, false, false, false, false, false, false, false, false, false, false, false, false, false, false, false, false, false, false, false, false, false, false, false, false, false, false, false, false, false, false, false, false, false, false, false, false, false, false, false, false, false, false, false, false, false, false, false, false, false, false, false, false, false, false, false, false, false, false, false, false, false, false, false, false, false, false, false, false, false, false, false, false, false, false, false, false, false, false, false, false, false, false, false, false, false, false, false, false, false, false, false, false, false, false, false, false, false, false, false, false, false, false, false, false, false, false, false, false, false, false, false, false, false, false, false, false, false, false, false, false, false, false, false, false, false, false, false, false, false, false, false, false, false, false, false, false, false, false, false, false, false, false] (fun s => Col M (nat2 P) s.1 ∧ HeldC ((nat2 P).take s.2) s.1 ∧ s.2 ≤ P.length) (fun s => [(9, .sl 1 (s.1.map intC)), (10, .v (.int .i64 (s.2 : Int)))]) (fun s => []) (fun s => P.length - s.2) (rangeC M.length, 0) (⟨Col.range _ _, fun _ h => (by simp at h), by simp only; omega⟩) ?_ (fun s hs => ?_)
  ·
   simp only [maskL, setsL, putsO, putO, bA, Nat.reduceEqDiff, ↓reduceIte]
   exact Weak.mk (by simp only [LeL, Le.refl, Le.any, Le.slNil, and_self, Int.natCast_add, Int.cast_ofNat_Int, Int.natCast_one]) (fun _ _ h => h) rfl rfl
  simp only [maskL, setsL, putsO, putO, bA, Nat.reduceEqDiff, ↓reduceIte]
  refine AWp_seqK fun K34 hK34 => ?_
  refine AWp_seqK fun K35 hK35 => ?_
  refine AWp_region ?_
  refine aops_chunk 2 fun C36 hC36 => ?_
  simp only [bL, ↓bO, bS, bA, bF, ↓reduceIte, Nat.reduceEqDiff, reduceCtorEq, tyX, List.length_map]
  refine hC36 _ ?_; clear hC36 C36
  simp only [bL]
  simp only [↓bO, bS, bA, bF, ↓reduceIte, Nat.reduceEqDiff, reduceCtorEq, getO, aLenX, aLen, ln121, List.length_map, aBin, tyX]
  refine hK35 _ ?_; try clear hK35 K35
  refine AWp_cond rfl (fun hb54 => ?_) (fun hb54 => ?_)
  ·
   have hk : s.2 < P.length := by simpa using hb54
   obtain ⟨p, hp⟩ : ∃ p, P[s.2]? = some p := ⟨_, List.getElem?_eq_getElem hk⟩
   have hpb := hP p (List.mem_of_getElem? hp)
   obtain ⟨a, b, rfl⟩ : ∃ a b : Nat, p = ((a : Int), (b : Int)) := ⟨p.1.toNat, p.2.toNat, by ext <;> simp only <;> omega⟩
   have hab : a < M.length ∧ b < M.length := by dsimp only at hpb; omega
   have hcl := hs.1.len
   have hw : IntKind.i64.wrap ((s.2 : Int) + 1) = (s.2 : Int) + 1 := wrap_in (by omega) (by omega)
   refine AWp_skip ?_
   try simp only [bF]
   refine hK34 _ ?_; try clear hK34 K34
   refine AWp_seqK fun K37 hK37 => ?_
   refine AWp_block ?_
   refine AWp_drawK 12 mixed (by kernel_rfl) fun K38 hK38 => ?_
   simp only [bL]
   refine dRun_chunk 2 fun C39 hC39 => ?_
   simp only [bL, ↓dRun, ↓dOp, ↓bO, bS, bA, bF, ↓reduceIte, Nat.reduceEqDiff, reduceCtorEq, tyX, List.length_map, hk, gM hp, pC, hw, Int.natCast_add, Int.natCast_one, Int.cast_ofNat_Int, intC]
   refine hC39 _ ?_; clear hC39 C39
   simp only [bL]
   refine dRun_chunk 2 fun C40 hC40 => ?_
   simp only [bL, ↓dRun, ↓dOp, ↓bO, bS, bA, bF, ↓reduceIte, Nat.reduceEqDiff, reduceCtorEq, getO, aIndexA, es121, Int.natCast_nonneg, Int.ofNat_lt, Int.toNat_natCast, List.length_map, Int.le_refl, Int.toNat_zero, Int.toNat_one, Int.reduceLE, tyX, hk, gM hp, pC, hw, Int.natCast_add, Int.natCast_one, Int.cast_ofNat_Int, intC]
   refine hC40 _ ?_; clear hC40 C40
   simp only [bL]
   refine dRun_chunk 2 fun C41 hC41 => ?_
   simp only [bL, ↓dRun, ↓dOp, ↓bO, bS, bA, bF, ↓reduceIte, Nat.reduceEqDiff, reduceCtorEq, getO, aIndexA, ar120, es120, Int.reduceLT, Nat.reduceLT, Int.cast_ofNat_Int, Int.natCast_one, Nat.one_mul, Nat.mul_one, Nat.reduceAdd, Nat.reduceMul, Int.natCast_nonneg, Int.ofNat_lt, Int.toNat_natCast, List.length_map, Int.le_refl, Int.toNat_zero, Int.toNat_one, Int.reduceLE, aLoad, ti3, pack, Nat.reduceLeDiff, tyX, hk, gM hp, pC, hw, Int.natCast_add, intC]
   refine hC41 _ ?_; clear hC41 C41
   simp only [bL]
   refine dRun_chunk 2 fun C42 hC42 => ?_
   simp only [bL, ↓dRun, ↓dOp, ↓bO, bS, bA, bF, ↓reduceIte, Nat.reduceEqDiff, reduceCtorEq, tyX, List.length_map, hk, gM hp, pC, hw, Int.natCast_add, Int.natCast_one, Int.cast_ofNat_Int, intC]
   refine hC42 _ ?_; clear hC42 C42
   simp only [bL]
   refine dRun_chunk 2 fun C43 hC43 => ?_
   simp only [bL, ↓dRun, ↓dOp, ↓bO, bS, bA, bF, ↓reduceIte, Nat.reduceEqDiff, reduceCtorEq, getO, aIndexA, es121, Int.natCast_nonneg, Int.ofNat_lt, Int.toNat_natCast, List.length_map, Int.le_refl, Int.toNat_zero, Int.toNat_one, Int.reduceLE, ar120, es120, Int.reduceLT, Nat.reduceLT, Int.cast_ofNat_Int, Int.natCast_one, Nat.one_mul, Nat.mul_one, Nat.reduceAdd, Nat.reduceMul, tyX, hk, gM hp, pC, hw, Int.natCast_add, intC]
   refine hC43 _ ?_; clear hC43 C43
   simp only [bL]
   refine dRun_chunk 1 fun C44 hC44 => ?_
   simp only [bL, ↓dRun, ↓dOp, ↓bO, bS, bA, bF, ↓reduceIte, Nat.reduceEqDiff, reduceCtorEq, aLoad, ti3, getO, pack, Nat.reduceAdd, Nat.reduceLeDiff, tyX, List.length_map, hk, gM hp, pC, hw, Int.natCast_add, Int.natCast_one, Int.cast_ofNat_Int, intC]
   refine hC44 _ ?_; clear hC44 C44
   simp only [bL]
   simp only [↓dRun, ↓dOp, bL, ↓bO, bS, bA, bF, ↓reduceIte, Nat.reduceEqDiff, reduceCtorEq, aCallV, tyX, List.length_map, hk, gM hp, pC, hw, Int.natCast_add, Int.natCast_one, Int.cast_ofNat_Int, intC]
   refine ⟨_, SJoin_pure s.1 a b (by omega) (by omega) (by omega), ?_⟩
   try simp only [bS, bA, bF]
   refine hK38 _ ?_; try clear hK38 K38
   simp only [bL]
   simp only [↓bO, bS, bA, bF, ↓reduceIte, Nat.reduceEqDiff, reduceCtorEq, tyX, List.length_map, hk, gM hp, pC, hw, Int.natCast_add, Int.natCast_one, Int.cast_ofNat_Int, intC]
   refine hK37 _ ?_; try clear hK37 K37
   refine AWp_region ?_
   refine aops_chunk 2 fun C45 hC45 => ?_
   simp only [bL, ↓bO, bS, bA, bF, ↓reduceIte, Nat.reduceEqDiff, reduceCtorEq, aBin, tyX, List.length_map, hk, gM hp, pC, hw, Int.natCast_add, Int.natCast_one, Int.cast_ofNat_Int, intC]
   refine hC45 _ ?_; clear hC45 C45
   simp only [bL]
   simp only [↓bO, bS, bA, bF, ↓reduceIte, Nat.reduceEqDiff, reduceCtorEq, tyX, List.length_map, hk, gM hp, pC, hw, Int.natCast_add, Int.natCast_one, Int.cast_ofNat_Int, intC]
   refine ⟨(joinC s.1 a b, s.2 + 1), ⟨hs.1.join hab.1 hab.2 (.base (List.mem_of_getElem? (nat2_at hp))), hs.2.1.next (nat2_at hp) (by omega) (by omega), by simp only; omega⟩, (by simp only; omega), ?_⟩
   simp only [maskL, setsL, putsO, putO, bA, Nat.reduceEqDiff, ↓reduceIte, hk, gM hp, pC, hw, Int.natCast_add, Int.natCast_one, Int.cast_ofNat_Int, intC]
   exact Weak.mk (by simp only [LeL, Le.refl, Le.any, Le.slNil, and_self, Int.natCast_add, Int.cast_ofNat_Int, Int.natCast_one]) (fun _ _ h => h) rfl rfl
  ·
   have hk : s.2 = P.length := by have h9 := hb54; simp at h9; have := hs.2.2; omega
   have hheld : HeldC (nat2 P) s.1 := by have h9 := hs.2.1; rw [hk, List.take_of_length_le (by simp [nat2])] at h9; exact h9
   refine AWp_exit ?_
   simp only [bF, bA, Nat.reduceEqDiff, ↓reduceIte]
   refine hK32 _ ?_; try clear hK32 K32
   refine AWp_seqK fun K46 hK46 => ?_
   refine AWp_seqK fun K47 hK47 => ?_
   refine AWp_region ?_
   simp only [↓bO, bS, bA, bF, ↓reduceIte, Nat.reduceEqDiff, reduceCtorEq, tyX, List.length_map]
   refine hK47 _ ?_; try clear hK47 K47
   refine AWp_block ?_
   refine AWp_loopM (σ := List Int × Bool) [false, false, true, true, false, false, false, false, false, true, false, true, false, false, false, false, false, false, false, false, false, false, false, false, false, false, false, false, false, false, false, false, false, false, false, false, false, false, false, false, false, false, false, false, false, false, false, false, false, false, false, false, false, false, false, false, false, false, false, false, false, false, false, false, false, false, false, false, false, false, false, false, false, false, false, false, false, false, false, false, false, false, false, false, false, false, false, false, false, false, false, false, false, false, false, false, false, false, false, false, false, false, false, false, false, false, false, false, false, false, false, false, false, false, false, false, false, false, false, false, false, false, false, false, false, false, false, false, false, false, false, false, false, false, false, false, false, false, false, false, false, false, false, false, false, false, false, false, false, false, false, false, false, false, false, false, false, false, false, false, false, false, false, false, false, false, false, false, false, false, false, false, false, false, false, false, false, false, false] (fun t => Col M (nat2 P) t.1 ∧ HeldC (nat2 P) t.1 ∧ (t.2 = false → PAll M t.1 M.length 0)) (fun t => [(9, .sl 1 (t.1.map intC)), (11, .v (.bool t.2))]) (fun t => []) (fun t => 2 * ndC t.1 + t.2.toNat) (s.1, true) (⟨hs.1, hheld, fun e => (by cases e)⟩) ?_ (fun t ht => ?_)
   ·
    simp only [maskL, setsL, putsO, putO, bA, Nat.reduceEqDiff, ↓reduceIte]
    exact Weak.mk (by simp only [LeL, Le.refl, Le.any, Le.slNil, and_self, Int.natCast_add, Int.cast_ofNat_Int, Int.natCast_one]) (fun _ _ h => h) rfl rfl
   simp only [maskL, setsL, putsO, putO, bA, Nat.reduceEqDiff, ↓reduceIte]
   refine AWp_seqK fun K48 hK48 => ?_
   refine AWp_seqK fun K49 hK49 => ?_
   refine AWp_region ?_
   simp only [↓bO, bS, bA, bF, ↓reduceIte, Nat.reduceEqDiff, reduceCtorEq, tyX, List.length_map]
   refine hK49 _ ?_; try clear hK49 K49
   refine AWp_cond rfl (fun hb69 => ?_) (fun hb69 => ?_)
   ·
    have htt : t.2 = true := hb69
    refine AWp_skip ?_
    try simp only [bF]
    refine hK48 _ ?_; try clear hK48 K48
    refine AWp_block ?_
    refine AWp_seqK fun K50 hK50 => ?_
    refine AWp_region ?_
    simp only [↓bO, bS, bA, bF, ↓reduceIte, Nat.reduceEqDiff, reduceCtorEq, tyX, List.length_map, Int.natCast_add, Int.natCast_one, Int.cast_ofNat_Int, intC]
    refine hK50 _ ?_; try clear hK50 K50
    refine AWp_seqK fun K51 hK51 => ?_
    refine AWp_region ?_
    simp only [↓bO, bS, bA, bF, ↓reduceIte, Nat.reduceEqDiff, reduceCtorEq, tyX, List.length_map, Int.natCast_add, Int.natCast_one, Int.cast_ofNat_Int, intC]
    refine hK51 _ ?_; try clear hK51 K51
    refine AWp_block ?_
    refine AWp_loopM (σ := Nat × List Int × Bool) [false, false, true, true, false, false, false, false, false, true, false, true, true, false, false, false, false, false, false, false, false, false, false, false, false, false, false, false, false, false, false, false, false, false, false, false, false, false, false, false, false, false, false, false, false, false, false, false, false, false, false, false, false, false, false, false, false, false, false, false, false, false, false, false, false, false, false, false, false, false, false, false, false, false, false, false, false, false, false, false, false, false, false, false, false, false, false, false, false, false, false, false, false, false, false, false, false, false, false, false, false, false, false, false, false, false, false, false, false, false, false, false, false, false, false, false, false, false, false, false, false, false, false, false, false, false, false, false, false, false, false, false, false, false, false, false, false, false, false, false, false, false, false, false, false, false, false, false, false, false, false, false, false, false, false, false, false, false, false, false, false, false, false, false, false, false, false, false, false, false, false, false, false, false, false, false, false, false, false] (fun u => u.1 ≤ M.length ∧ CLoop M (nat2 P) t.1 u.2 ∧ (u.2.2 = false → PAll M u.2.1 u.1 0)) (fun u => [(9, .sl 1 (u.2.1.map intC)), (11, .v (.bool u.2.2)), (12, .v (.int .i64 (u.1 : Int)))]) (fun u => []) (fun u => M.length - u.1) (0, t.1, false) (⟨Nat.zero_le _, ⟨ht.1, ht.2.1, fun _ => rfl, fun e => (by cases e)⟩, fun _ => PAll.zero _ _⟩) ?_ (fun u hu => ?_)
    ·
     simp only [maskL, setsL, putsO, putO, bA, Nat.reduceEqDiff, ↓reduceIte]
     exact Weak.mk (by simp only [LeL, Le.refl, Le.any, Le.slNil, and_self, Int.natCast_add, Int.cast_ofNat_Int, Int.natCast_one]) (fun _ _ h => h) rfl rfl
    simp only [maskL, setsL, putsO, putO, bA, Nat.reduceEqDiff, ↓reduceIte]
    refine AWp_seqK fun K52 hK52 => ?_
    refine AWp_seqK fun K53 hK53 => ?_
    refine AWp_region ?_
    refine aops_chunk 2 fun C54 hC54 => ?_
    simp only [bL, ↓bO, bS, bA, bF, ↓reduceIte, Nat.reduceEqDiff, reduceCtorEq, tyX, List.length_map, Int.natCast_add, Int.natCast_one, Int.cast_ofNat_Int, intC]
    refine hC54 _ ?_; clear hC54 C54
    simp only [bL]
    simp only [↓bO, bS, bA, bF, ↓reduceIte, Nat.reduceEqDiff, reduceCtorEq, getO, aLenX, aLen, ln27, List.length_map, aBin, tyX, Int.natCast_add, Int.natCast_one, Int.cast_ofNat_Int, intC]
    refine hK53 _ ?_; try clear hK53 K53
    refine AWp_cond rfl (fun hb73 => ?_) (fun hb73 => ?_)
    ·
     have hki : u.1 < M.length := by simpa using hb73
     obtain ⟨x, hxm⟩ : ∃ x, M[u.1]? = some x := ⟨_, List.getElem?_eq_getElem hki⟩
     have hw1 : IntKind.i64.wrap ((u.1 : Int) + 1) = (u.1 : Int) + 1 := wrap_in (by omega) (by omega)
     refine AWp_skip ?_
     try simp only [bF]
     refine hK52 _ ?_; try clear hK52 K52
     refine AWp_seqK fun K55 hK55 => ?_
     refine AWp_block ?_
     refine AWp_seqK fun K56 hK56 => ?_
     refine AWp_region ?_
     simp only [↓bO, bS, bA, bF, ↓reduceIte, Nat.reduceEqDiff, reduceCtorEq, tyX, List.length_map, Int.natCast_add, Int.natCast_one, Int.cast_ofNat_Int, intC, hki, gM hxm, hw1]
     refine hK56 _ ?_; try clear hK56 K56
     refine AWp_block ?_
     refine AWp_loopM (σ := Nat × List Int × Bool) [false, false, true, true, false, false, false, false, false, true, false, true, true, true, false, false, false, false, false, false, false, false, false, false, false, false, false, false, false, false, false, false, false, false, false, false, false, false, false, false, false, false, false, false, false, false, false, false, false, false, false, false, false, false, false, false, false, false, false, false, false, false, false, false, false, false, false, false, false, false, false, false, false, false, false, false, false, false, false, false, false, false, false, false, false, false, false, false, false, false, false, false, false, false, false, false, false, false, false, false, false, false, false, false, false, false, false, false, false, false, false, false, false, false, false, false, false, false, false, false, false, false, false, false, false, false, false, false, false, false, false, false, false, false, false, false, false, false, false, false, false, false, false, false, false, false, false, false, false, false, false, false, false, false, false, false, false, false, false, false, false, false, false, false, false, false, false, false, false, false, false, false, false, false, false, false, false, false, false] (fun v => v.1 ≤ u.1 ∧ CLoop M (nat2 P) t.1 v.2 ∧ (v.2.2 = false → PAll M v.2.1 u.1 v.1)) (fun v => [(9, .sl 1 (v.2.1.map intC)), (11, .v (.bool v.2.2)), (13, .v (.int .i64 (v.1 : Int)))]) (fun v => []) (fun v => u.1 - v.1) (0, u.2) (⟨Nat.zero_le _, hu.2.1, hu.2.2⟩) ?_ (fun v hv => ?_)
     ·
      simp only [maskL, setsL, putsO, putO, bA, Nat.reduceEqDiff, ↓reduceIte]
      exact Weak.mk (by simp only [LeL, Le.refl, Le.any, Le.slNil, and_self, Int.natCast_add, Int.cast_ofNat_Int, Int.natCast_one]) (fun _ _ h => h) rfl rfl
     simp only [maskL, setsL, putsO, putO, bA, Nat.reduceEqDiff, ↓reduceIte]
     refine AWp_seqK fun K57 hK57 => ?_
     refine AWp_seqK fun K58 hK58 => ?_
     refine AWp_region ?_
     refine aops_chunk 2 fun C59 hC59 => ?_
     simp only [bL, ↓bO, bS, bA, bF, ↓reduceIte, Nat.reduceEqDiff, reduceCtorEq, tyX, List.length_map, Int.natCast_add, Int.natCast_one, Int.cast_ofNat_Int, intC, hki, gM hxm, hw1]
     refine hC59 _ ?_; clear hC59 C59
     simp only [bL]
     simp only [↓bO, bS, bA, bF, ↓reduceIte, Nat.reduceEqDiff, reduceCtorEq, aBin, tyX, List.length_map, Int.natCast_add, Int.natCast_one, Int.cast_ofNat_Int, intC, hki, gM hxm, hw1]
     refine hK58 _ ?_; try clear hK58 K58
     refine AWp_cond rfl (fun hb78 => ?_) (fun hb78 => ?_)
     ·
      have hkk : v.1 < u.1 := by simpa using hb78
      have hkM : v.1 < M.length := by omega
      obtain ⟨y, hym⟩ : ∃ y, M[v.1]? = some y := ⟨_, List.getElem?_eq_getElem hkM⟩
      have hcl := hv.2.1.col.len
      obtain ⟨ci, hci⟩ : ∃ z, v.2.1[u.1]? = some z := ⟨_, List.getElem?_eq_getElem (by omega)⟩
      obtain ⟨ck, hck⟩ : ∃ z, v.2.1[v.1]? = some z := ⟨_, List.getElem?_eq_getElem (by omega)⟩
      have hw2 : IntKind.i64.wrap ((v.1 : Int) + 1) = (v.1 : Int) + 1 := wrap_in (by omega) (by omega)
      refine AWp_skip ?_
      try simp only [bF]
      refine hK57 _ ?_; try clear hK57 K57
      refine AWp_seqK fun K60 hK60 => ?_
      refine AWp_block ?_
      refine AWp_seqK fun K61 hK61 => ?_
      refine AWp_seqK fun K62 hK62 => ?_
      refine AWp_drawK 48 mixed (by kernel_rfl) fun K63 hK63 => ?_
      simp only [bL]
      refine dRun_chunk 2 fun C64 hC64 => ?_
      simp only [bL, ↓dRun, ↓dOp, ↓bO, bS, bA, bF, ↓reduceIte, Nat.reduceEqDiff, reduceCtorEq, tyX, List.length_map, Int.natCast_add, Int.natCast_one, Int.cast_ofNat_Int, intC, hki, gM hxm, hw1, hkk, hkM, gM hym, gM hci, gM hck, hcl, hw2, RNode.cells]
      refine hC64 _ ?_; clear hC64 C64
      simp only [bL]
      refine dRun_chunk 2 fun C65 hC65 => ?_
      simp only [bL, ↓dRun, ↓dOp, ↓bO, bS, bA, bF, ↓reduceIte, Nat.reduceEqDiff, reduceCtorEq, getO, aIndexA, es109, Int.natCast_nonneg, Int.ofNat_lt, Int.toNat_natCast, List.length_map, Int.le_refl, Int.toNat_zero, Int.toNat_one, Int.reduceLE, aLoad, ti3, pack, Nat.reduceAdd, Nat.reduceLeDiff, tyX, Int.natCast_add, Int.natCast_one, Int.cast_ofNat_Int, intC, hki, gM hxm, hw1, hkk, hkM, gM hym, gM hci, gM hck, hcl, hw2, RNode.cells]
      refine hC65 _ ?_; clear hC65 C65
      simp only [bL]
      refine dRun_chunk 2 fun C66 hC66 => ?_
      simp only [bL, ↓dRun, ↓dOp, ↓bO, bS, bA, bF, ↓reduceIte, Nat.reduceEqDiff, reduceCtorEq, tyX, List.length_map, Int.natCast_add, Int.natCast_one, Int.cast_ofNat_Int, intC, hki, gM hxm, hw1, hkk, hkM, gM hym, gM hci, gM hck, hcl, hw2, RNode.cells]
      refine hC66 _ ?_; clear hC66 C66
      simp only [bL]
      refine dRun_chunk 2 fun C67 hC67 => ?_
      simp only [bL, ↓dRun, ↓dOp, ↓bO, bS, bA, bF, ↓reduceIte, Nat.reduceEqDiff, reduceCtorEq, getO, aIndexA, es109, Int.natCast_nonneg, Int.ofNat_lt, Int.toNat_natCast, List.length_map, Int.le_refl, Int.toNat_zero, Int.toNat_one, Int.reduceLE, aLoad, ti3, pack, Nat.reduceAdd, Nat.reduceLeDiff, tyX, Int.natCast_add, Int.natCast_one, Int.cast_ofNat_Int, intC, hki, gM hxm, hw1, hkk, hkM, gM hym, gM hci, gM hck, hcl, hw2, RNode.cells]
      refine hC67 _ ?_; clear hC67 C67
      simp only [bL]
      refine dRun_chunk 2 fun C68 hC68 => ?_
      simp only [bL, ↓dRun, ↓dOp, ↓bO, bS, bA, bF, ↓reduceIte, Nat.reduceEqDiff, reduceCtorEq, aBin, tyX, List.length_map, Int.natCast_add, Int.natCast_one, Int.cast_ofNat_Int, intC, hki, gM hxm, hw1, hkk, hkM, gM hym, gM hci, gM hck, hcl, hw2, RNode.cells]
      refine hC68 _ ?_; clear hC68 C68
      simp only [bL]
      refine dRun_case 90 rfl (fun hc90 => ?_) (fun hc90 => ?_)
      ·
       simp only [List.set_cons_zero, List.set_cons_succ]
       have hnc : ¬ ci = ck := by simpa using hc90
       have hsk : POk M v.2.1 u.1 v.1 := POk.skip hxm hym (by rw [hci, hck]; simp [hnc])
       refine dRun_chunk 2 fun C69 hC69 => ?_
       simp only [bL, ↓dRun, ↓dOp, ↓bO, bS, bA, bF, ↓reduceIte, Nat.reduceEqDiff, reduceCtorEq, undef, tyX, List.length_map, Int.natCast_add, Int.natCast_one, Int.cast_ofNat_Int, intC, hki, gM hxm, hw1, hkk, hkM, gM hym, gM hci, gM hck, hcl, hw2, RNode.cells]
       refine hC69 _ ?_; clear hC69 C69
       simp only [bL]
       refine dRun_chunk 2 fun C70 hC70 => ?_
       simp only [bL, ↓dRun, ↓dOp, ↓bO, bS, bA, bF, ↓reduceIte, Nat.reduceEqDiff, reduceCtorEq, undef, getO, aIndexA, es27, Int.natCast_nonneg, Int.ofNat_lt, Int.toNat_natCast, List.length_map, Int.le_refl, Int.toNat_zero, Int.toNat_one, Int.reduceLE, aField, fo38_0, Nat.reduceAdd, tyX, Int.natCast_add, Int.natCast_one, Int.cast_ofNat_Int, intC, hki, gM hxm, hw1, hkk, hkM, gM hym, gM hci, gM hck, hcl, hw2, RNode.cells]
       refine hC70 _ ?_; clear hC70 C70
       simp only [bL]
       refine dRun_chunk 2 fun C71 hC71 => ?_
       simp only [bL, ↓dRun, ↓dOp, ↓bO, bS, bA, bF, ↓reduceIte, Nat.reduceEqDiff, reduceCtorEq, undef, aField, fo32_0, Nat.reduceAdd, aLoad, ti3, getO, pack, Nat.reduceLeDiff, tyX, List.length_map, Int.natCast_add, Int.natCast_one, Int.cast_ofNat_Int, intC, hki, gM hxm, hw1, hkk, hkM, gM hym, gM hci, gM hck, hcl, hw2, RNode.cells]
       refine hC71 _ ?_; clear hC71 C71
       simp only [bL]
       refine dRun_chunk 2 fun C72 hC72 => ?_
       simp only [bL, ↓dRun, ↓dOp, ↓bO, bS, bA, bF, ↓reduceIte, Nat.reduceEqDiff, reduceCtorEq, undef, aBin, aBool, tyX, List.length_map, Int.natCast_add, Int.natCast_one, Int.cast_ofNat_Int, intC, hki, gM hxm, hw1, hkk, hkM, gM hym, gM hci, gM hck, hcl, hw2, RNode.cells]
       refine hC72 _ ?_; clear hC72 C72
       simp only [bL]
       refine dRun_chunk 2 fun C73 hC73 => ?_
       simp only [bL, ↓dRun, ↓dOp, ↓bO, bS, bA, bF, ↓reduceIte, Nat.reduceEqDiff, reduceCtorEq, undef, tyX, List.length_map, Int.natCast_add, Int.natCast_one, Int.cast_ofNat_Int, intC, hki, gM hxm, hw1, hkk, hkM, gM hym, gM hci, gM hck, hcl, hw2, RNode.cells]
       refine hC73 _ ?_; clear hC73 C73
       simp only [bL]
       refine dRun_chunk 2 fun C74 hC74 => ?_
       simp only [bL, ↓dRun, ↓dOp, ↓bO, bS, bA, bF, ↓reduceIte, Nat.reduceEqDiff, reduceCtorEq, undef, getO, aIndexA, es27, Int.natCast_nonneg, Int.ofNat_lt, Int.toNat_natCast, List.length_map, Int.le_refl, Int.toNat_zero, Int.toNat_one, Int.reduceLE, tyX, Int.natCast_add, Int.natCast_one, Int.cast_ofNat_Int, intC, hki, gM hxm, hw1, hkk, hkM, gM hym, gM hci, gM hck, hcl, hw2, RNode.cells]
       refine hC74 _ ?_; clear hC74 C74
       simp only [bL]
       refine dRun_chunk 2 fun C75 hC75 => ?_
       simp only [bL, ↓dRun, ↓dOp, ↓bO, bS, bA, bF, ↓reduceIte, Nat.reduceEqDiff, reduceCtorEq, undef, aField, fo38_0, Nat.reduceAdd, fo32_0, tyX, List.length_map, Int.natCast_add, Int.natCast_one, Int.cast_ofNat_Int, intC, hki, gM hxm, hw1, hkk, hkM, gM hym, gM hci, gM hck, hcl, hw2, RNode.cells]
       refine hC75 _ ?_; clear hC75 C75
       simp only [bL]
       refine dRun_chunk 2 fun C76 hC76 => ?_
       simp only [bL, ↓dRun, ↓dOp, ↓bO, bS, bA, bF, ↓reduceIte, Nat.reduceEqDiff, reduceCtorEq, undef, aLoad, ti3, getO, pack, Nat.reduceAdd, Nat.reduceLeDiff, tyX, List.length_map, Int.natCast_add, Int.natCast_one, Int.cast_ofNat_Int, intC, hki, gM hxm, hw1, hkk, hkM, gM hym, gM hci, gM hck, hcl, hw2, RNode.cells]
       refine hC76 _ ?_; clear hC76 C76
       simp only [bL]
       refine dRun_chunk 2 fun C77 hC77 => ?_
       simp only [bL, ↓dRun, ↓dOp, ↓bO, bS, bA, bF, ↓reduceIte, Nat.reduceEqDiff, reduceCtorEq, undef, getO, aIndexA, es27, Int.natCast_nonneg, Int.ofNat_lt, Int.toNat_natCast, List.length_map, Int.le_refl, Int.toNat_zero, Int.toNat_one, Int.reduceLE, tyX, Int.natCast_add, Int.natCast_one, Int.cast_ofNat_Int, intC, hki, gM hxm, hw1, hkk, hkM, gM hym, gM hci, gM hck, hcl, hw2, RNode.cells]
       refine hC77 _ ?_; clear hC77 C77
       simp only [bL]
       refine dRun_chunk 2 fun C78 hC78 => ?_
       simp only [bL, ↓dRun, ↓dOp, ↓bO, bS, bA, bF, ↓reduceIte, Nat.reduceEqDiff, reduceCtorEq, undef, aField, fo38_0, Nat.reduceAdd, fo32_0, tyX, List.length_map, Int.natCast_add, Int.natCast_one, Int.cast_ofNat_Int, intC, hki, gM hxm, hw1, hkk, hkM, gM hym, gM hci, gM hck, hcl, hw2, RNode.cells]
       refine hC78 _ ?_; clear hC78 C78
       simp only [bL]
       refine dRun_chunk 2 fun C79 hC79 => ?_
       simp only [bL, ↓dRun, ↓dOp, ↓bO, bS, bA, bF, ↓reduceIte, Nat.reduceEqDiff, reduceCtorEq, undef, aLoad, ti3, getO, pack, Nat.reduceAdd, Nat.reduceLeDiff, aBin, tyX, List.length_map, Int.natCast_add, Int.natCast_one, Int.cast_ofNat_Int, intC, hki, gM hxm, hw1, hkk, hkM, gM hym, gM hci, gM hck, hcl, hw2, RNode.cells]
       refine hC79 _ ?_; clear hC79 C79
       simp only [bL]
       refine dRun_chunk 3 fun C80 hC80 => ?_
       simp only [bL, ↓dRun, ↓dOp, ↓bO, bS, bA, bF, ↓reduceIte, Nat.reduceEqDiff, reduceCtorEq, aBool, undef, tyX, List.length_map, Int.natCast_add, Int.natCast_one, Int.cast_ofNat_Int, intC, hki, gM hxm, hw1, hkk, hkM, gM hym, gM hci, gM hck, hcl, hw2, RNode.cells]
       refine hC80 _ ?_; clear hC80 C80
       simp only [bL]
       refine dRun_chunk 2 fun C81 hC81 => ?_
       simp only [bL, ↓dRun, ↓dOp, ↓bO, bS, bA, bF, ↓reduceIte, Nat.reduceEqDiff, reduceCtorEq, undef, getO, aIndexA, es27, Int.natCast_nonneg, Int.ofNat_lt, Int.toNat_natCast, List.length_map, Int.le_refl, Int.toNat_zero, Int.toNat_one, Int.reduceLE, tyX, Int.natCast_add, Int.natCast_one, Int.cast_ofNat_Int, intC, hki, gM hxm, hw1, hkk, hkM, gM hym, gM hci, gM hck, hcl, hw2, RNode.cells]
       refine hC81 _ ?_; clear hC81 C81
       simp only [bL]
       refine dRun_chunk 2 fun C82 hC82 => ?_
       simp only [bL, ↓dRun, ↓dOp, ↓bO, bS, bA, bF, ↓reduceIte, Nat.reduceEqDiff, reduceCtorEq, undef, aField, fo38_1, Nat.reduceAdd, aLoad, ti28, getO, pack, Nat.reduceLeDiff, tyX, List.length_map, Int.natCast_add, Int.natCast_one, Int.cast_ofNat_Int, intC, hki, gM hxm, hw1, hkk, hkM, gM hym, gM hci, gM hck, hcl, hw2, RNode.cells]
       refine hC82 _ ?_; clear hC82 C82
       simp only [bL]
       refine dRun_chunk 2 fun C83 hC83 => ?_
       simp only [bL, ↓dRun, ↓dOp, ↓bO, bS, bA, bF, ↓reduceIte, Nat.reduceEqDiff, reduceCtorEq, undef, getO, aLenX, aLen, ln28, List.length_map, tyX, Int.natCast_add, Int.natCast_one, Int.cast_ofNat_Int, intC, hki, gM hxm, hw1, hkk, hkM, gM hym, gM hci, gM hck, hcl, hw2, RNode.cells]
       refine hC83 _ ?_; clear hC83 C83
       simp only [bL]
       refine dRun_chunk 2 fun C84 hC84 => ?_
       simp only [bL, ↓dRun, ↓dOp, ↓bO, bS, bA, bF, ↓reduceIte, Nat.reduceEqDiff, reduceCtorEq, undef, getO, aIndexA, es27, Int.natCast_nonneg, Int.ofNat_lt, Int.toNat_natCast, List.length_map, Int.le_refl, Int.toNat_zero, Int.toNat_one, Int.reduceLE, tyX, Int.natCast_add, Int.natCast_one, Int.cast_ofNat_Int, intC, hki, gM hxm, hw1, hkk, hkM, gM hym, gM hci, gM hck, hcl, hw2, RNode.cells]
       refine hC84 _ ?_; clear hC84 C84
       simp only [bL]
       refine dRun_chunk 2 fun C85 hC85 => ?_
       simp only [bL, ↓dRun, ↓dOp, ↓bO, bS, bA, bF, ↓reduceIte, Nat.reduceEqDiff, reduceCtorEq, undef, aField, fo38_1, Nat.reduceAdd, aLoad, ti28, getO, pack, Nat.reduceLeDiff, tyX, List.length_map, Int.natCast_add, Int.natCast_one, Int.cast_ofNat_Int, intC, hki, gM hxm, hw1, hkk, hkM, gM hym, gM hci, gM hck, hcl, hw2, RNode.cells]
       refine hC85 _ ?_; clear hC85 C85
       simp only [bL]
       refine dRun_chunk 2 fun C86 hC86 => ?_
       simp only [bL, ↓dRun, ↓dOp, ↓bO, bS, bA, bF, ↓reduceIte, Nat.reduceEqDiff, reduceCtorEq, undef, getO, aLenX, aLen, ln28, List.length_map, aBin, tyX, Int.natCast_add, Int.natCast_one, Int.cast_ofNat_Int, intC, hki, gM hxm, hw1, hkk, hkM, gM hym, gM hci, gM hck, hcl, hw2, RNode.cells]
       refine hC86 _ ?_; clear hC86 C86
       simp only [bL]
       simp only [↓dRun, ↓dOp, bL, ↓bO, bS, bA, bF, ↓reduceIte, Nat.reduceEqDiff, reduceCtorEq, aBool, tyX, List.length_map, Int.natCast_add, Int.natCast_one, Int.cast_ofNat_Int, intC, hki, gM hxm, hw1, hkk, hkM, gM hym, gM hci, gM hck, hcl, hw2, RNode.cells]
       refine hK63 _ ?_; try clear hK63 K63
       simp only [bL, aops, bF]
       refine hK62 _ ?_; try clear hK62 K62
       refine AWp_cond (b := true) (by first | exact rfl | exact congrArg (fun b => AV.v (.bool b)) hb128) (fun _ => ?_) (fun h => (by cases h))
       refine AWp_exit ?_
       simp only [bF, bA, Nat.reduceEqDiff, ↓reduceIte]
       refine hK60 _ ?_; try clear hK60 K60
       refine AWp_region ?_
       refine aops_chunk 2 fun C87 hC87 => ?_
       simp only [bL, ↓bO, bS, bA, bF, ↓reduceIte, Nat.reduceEqDiff, reduceCtorEq, aBin, tyX, List.length_map, Int.natCast_add, Int.natCast_one, Int.cast_ofNat_Int, intC, hki, gM hxm, hw1, hkk, hkM, gM hym, gM hci, gM hck, hcl, hw2, RNode.cells]
       refine hC87 _ ?_; clear hC87 C87
       simp only [bL]
       simp only [↓bO, bS, bA, bF, ↓reduceIte, Nat.reduceEqDiff, reduceCtorEq, tyX, List.length_map, Int.natCast_add, Int.natCast_one, Int.cast_ofNat_Int, intC, hki, gM hxm, hw1, hkk, hkM, gM hym, gM hci, gM hck, hcl, hw2, RNode.cells]
       refine ⟨(v.1 + 1, v.2), ⟨by simp only; omega, hv.2.1, fun e => (hv.2.2 e).next hsk⟩, (by simp only; omega), ?_⟩
       simp only [maskL, setsL, putsO, putO, bA, Nat.reduceEqDiff, ↓reduceIte, hkk, hkM, gM hym, gM hci, gM hck, hcl, hw2, RNode.cells, Int.natCast_add, Int.natCast_one, Int.cast_ofNat_Int, intC]
       exact Weak.mk (by simp only [LeL, Le.refl, Le.any, Le.slNil, and_self, Int.natCast_add, Int.cast_ofNat_Int, Int.natCast_one]) (fun _ _ h => h) rfl rfl
      ·
       simp only [List.set_cons_zero, List.set_cons_succ]
       have hcc : ci = ck := by simpa using hc90
       refine dRun_chunk 2 fun C88 hC88 => ?_
       simp only [bL, ↓dRun, ↓dOp, ↓bO, bS, bA, bF, ↓reduceIte, Nat.reduceEqDiff, reduceCtorEq, undef, tyX, List.length_map, Int.natCast_add, Int.natCast_one, Int.cast_ofNat_Int, intC, hki, gM hxm, hw1, hkk, hkM, gM hym, gM hci, gM hck, hcl, hw2, RNode.cells]
       refine hC88 _ ?_; clear hC88 C88
       simp only [bL]
       refine dRun_chunk 2 fun C89 hC89 => ?_
       simp only [bL, ↓dRun, ↓dOp, ↓bO, bS, bA, bF, ↓reduceIte, Nat.reduceEqDiff, reduceCtorEq, undef, getO, aIndexA, es27, Int.natCast_nonneg, Int.ofNat_lt, Int.toNat_natCast, List.length_map, Int.le_refl, Int.toNat_zero, Int.toNat_one, Int.reduceLE, aField, fo38_0, Nat.reduceAdd, tyX, Int.natCast_add, Int.natCast_one, Int.cast_ofNat_Int, intC, hki, gM hxm, hw1, hkk, hkM, gM hym, gM hci, gM hck, hcl, hw2, RNode.cells]
       refine hC89 _ ?_; clear hC89 C89
       simp only [bL]
       refine dRun_chunk 2 fun C90 hC90 => ?_
       simp only [bL, ↓dRun, ↓dOp, ↓bO, bS, bA, bF, ↓reduceIte, Nat.reduceEqDiff, reduceCtorEq, undef, aField, fo32_0, Nat.reduceAdd, aLoad, ti3, getO, pack, Nat.reduceLeDiff, tyX, List.length_map, Int.natCast_add, Int.natCast_one, Int.cast_ofNat_Int, intC, hki, gM hxm, hw1, hkk, hkM, gM hym, gM hci, gM hck, hcl, hw2, RNode.cells]
       refine hC90 _ ?_; clear hC90 C90
       simp only [bL]
       refine dRun_chunk 2 fun C91 hC91 => ?_
       simp only [bL, ↓dRun, ↓dOp, ↓bO, bS, bA, bF, ↓reduceIte, Nat.reduceEqDiff, reduceCtorEq, undef, aBin, aBool, tyX, List.length_map, Int.natCast_add, Int.natCast_one, Int.cast_ofNat_Int, intC, hki, gM hxm, hw1, hkk, hkM, gM hym, gM hci, gM hck, hcl, hw2, RNode.cells]
       refine hC91 _ ?_; clear hC91 C91
       simp only [bL]
       refine dRun_chunk 1 fun C92 hC92 => ?_
       simp only [bL, ↓dRun, ↓dOp, ↓bO, bS, bA, bF, ↓reduceIte, Nat.reduceEqDiff, reduceCtorEq, tyX, List.length_map, Int.natCast_add, Int.natCast_one, Int.cast_ofNat_Int, intC, hki, gM hxm, hw1, hkk, hkM, gM hym, gM hci, gM hck, hcl, hw2, RNode.cells]
       refine hC92 _ ?_; clear hC92 C92
       simp only [bL]
       refine dRun_case 99 rfl (fun hc99 => ?_) (fun hc99 => ?_)
       ·
        simp only [List.set_cons_zero, List.set_cons_succ]
        have hk1 : x.t.k = 1 := by simpa using hc99
        have hsk : POk M v.2.1 u.1 v.1 := POk.skip hxm hym (by simp [hk1])
        refine dRun_chunk 2 fun C93 hC93 => ?_
        simp only [bL, ↓dRun, ↓dOp, ↓bO, bS, bA, bF, ↓reduceIte, Nat.reduceEqDiff, reduceCtorEq, undef, tyX, List.length_map, Int.natCast_add, Int.natCast_one, Int.cast_ofNat_Int, intC, hki, gM hxm, hw1, hkk, hkM, gM hym, gM hci, gM hck, hcl, hw2, RNode.cells]
        refine hC93 _ ?_; clear hC93 C93
        simp only [bL]
        refine dRun_chunk 2 fun C94 hC94 => ?_
        simp only [bL, ↓dRun, ↓dOp, ↓bO, bS, bA, bF, ↓reduceIte, Nat.reduceEqDiff, reduceCtorEq, undef, getO, aIndexA, es27, Int.natCast_nonneg, Int.ofNat_lt, Int.toNat_natCast, List.length_map, Int.le_refl, Int.toNat_zero, Int.toNat_one, Int.reduceLE, aField, fo38_0, Nat.reduceAdd, tyX, Int.natCast_add, Int.natCast_one, Int.cast_ofNat_Int, intC, hki, gM hxm, hw1, hkk, hkM, gM hym, gM hci, gM hck, hcl, hw2, RNode.cells]
        refine hC94 _ ?_; clear hC94 C94
        simp only [bL]
        refine dRun_chunk 2 fun C95 hC95 => ?_
        simp only [bL, ↓dRun, ↓dOp, ↓bO, bS, bA, bF, ↓reduceIte, Nat.reduceEqDiff, reduceCtorEq, undef, aField, fo32_0, Nat.reduceAdd, aLoad, ti3, getO, pack, Nat.reduceLeDiff, tyX, List.length_map, Int.natCast_add, Int.natCast_one, Int.cast_ofNat_Int, intC, hki, gM hxm, hw1, hkk, hkM, gM hym, gM hci, gM hck, hcl, hw2, RNode.cells]
        refine hC95 _ ?_; clear hC95 C95
        simp only [bL]
        refine dRun_chunk 2 fun C96 hC96 => ?_
        simp only [bL, ↓dRun, ↓dOp, ↓bO, bS, bA, bF, ↓reduceIte, Nat.reduceEqDiff, reduceCtorEq, undef, tyX, List.length_map, Int.natCast_add, Int.natCast_one, Int.cast_ofNat_Int, intC, hki, gM hxm, hw1, hkk, hkM, gM hym, gM hci, gM hck, hcl, hw2, RNode.cells]
        refine hC96 _ ?_; clear hC96 C96
        simp only [bL]
        refine dRun_chunk 2 fun C97 hC97 => ?_
        simp only [bL, ↓dRun, ↓dOp, ↓bO, bS, bA, bF, ↓reduceIte, Nat.reduceEqDiff, reduceCtorEq, undef, getO, aIndexA, es27, Int.natCast_nonneg, Int.ofNat_lt, Int.toNat_natCast, List.length_map, Int.le_refl, Int.toNat_zero, Int.toNat_one, Int.reduceLE, aField, fo38_0, Nat.reduceAdd, tyX, Int.natCast_add, Int.natCast_one, Int.cast_ofNat_Int, intC, hki, gM hxm, hw1, hkk, hkM, gM hym, gM hci, gM hck, hcl, hw2, RNode.cells]
        refine hC97 _ ?_; clear hC97 C97
        simp only [bL]
        refine dRun_chunk 2 fun C98 hC98 => ?_
        simp only [bL, ↓dRun, ↓dOp, ↓bO, bS, bA, bF, ↓reduceIte, Nat.reduceEqDiff, reduceCtorEq, undef, aField, fo32_0, Nat.reduceAdd, aLoad, ti3, getO, pack, Nat.reduceLeDiff, tyX, List.length_map, Int.natCast_add, Int.natCast_one, Int.cast_ofNat_Int, intC, hki, gM hxm, hw1, hkk, hkM, gM hym, gM hci, gM hck, hcl, hw2, RNode.cells]
        refine hC98 _ ?_; clear hC98 C98
        simp only [bL]
        refine dRun_chunk 2 fun C99 hC99 => ?_
        simp only [bL, ↓dRun, ↓dOp, ↓bO, bS, bA, bF, ↓reduceIte, Nat.reduceEqDiff, reduceCtorEq, undef, aBin, aBool, tyX, List.length_map, Int.natCast_add, Int.natCast_one, Int.cast_ofNat_Int, intC, hki, gM hxm, hw1, hkk, hkM, gM hym, gM hci, gM hck, hcl, hw2, RNode.cells]
        refine hC99 _ ?_; clear hC99 C99
        simp only [bL]
        refine dRun_chunk 2 fun C100 hC100 => ?_
        simp only [bL, ↓dRun, ↓dOp, ↓bO, bS, bA, bF, ↓reduceIte, Nat.reduceEqDiff, reduceCtorEq, undef, tyX, List.length_map, Int.natCast_add, Int.natCast_one, Int.cast_ofNat_Int, intC, hki, gM hxm, hw1, hkk, hkM, gM hym, gM hci, gM hck, hcl, hw2, RNode.cells]
        refine hC100 _ ?_; clear hC100 C100
        simp only [bL]
        refine dRun_chunk 2 fun C101 hC101 => ?_
        simp only [bL, ↓dRun, ↓dOp, ↓bO, bS, bA, bF, ↓reduceIte, Nat.reduceEqDiff, reduceCtorEq, undef, getO, aIndexA, es27, Int.natCast_nonneg, Int.ofNat_lt, Int.toNat_natCast, List.length_map, Int.le_refl, Int.toNat_zero, Int.toNat_one, Int.reduceLE, tyX, Int.natCast_add, Int.natCast_one, Int.cast_ofNat_Int, intC, hki, gM hxm, hw1, hkk, hkM, gM hym, gM hci, gM hck, hcl, hw2, RNode.cells]
        refine hC101 _ ?_; clear hC101 C101
        simp only [bL]
        refine dRun_chunk 2 fun C102 hC102 => ?_
        simp only [bL, ↓dRun, ↓dOp, ↓bO, bS, bA, bF, ↓reduceIte, Nat.reduceEqDiff, reduceCtorEq, undef, aField, fo38_1, Nat.reduceAdd, aLoad, ti28, getO, pack, Nat.reduceLeDiff, tyX, List.length_map, Int.natCast_add, Int.natCast_one, Int.cast_ofNat_Int, intC, hki, gM hxm, hw1, hkk, hkM, gM hym, gM hci, gM hck, hcl, hw2, RNode.cells]
        refine hC102 _ ?_; clear hC102 C102
        simp only [bL]
        refine dRun_chunk 2 fun C103 hC103 => ?_
        simp only [bL, ↓dRun, ↓dOp, ↓bO, bS, bA, bF, ↓reduceIte, Nat.reduceEqDiff, reduceCtorEq, undef, getO, aLenX, aLen, ln28, List.length_map, tyX, Int.natCast_add, Int.natCast_one, Int.cast_ofNat_Int, intC, hki, gM hxm, hw1, hkk, hkM, gM hym, gM hci, gM hck, hcl, hw2, RNode.cells]
        refine hC103 _ ?_; clear hC103 C103
        simp only [bL]
        refine dRun_chunk 2 fun C104 hC104 => ?_
        simp only [bL, ↓dRun, ↓dOp, ↓bO, bS, bA, bF, ↓reduceIte, Nat.reduceEqDiff, reduceCtorEq, undef, getO, aIndexA, es27, Int.natCast_nonneg, Int.ofNat_lt, Int.toNat_natCast, List.length_map, Int.le_refl, Int.toNat_zero, Int.toNat_one, Int.reduceLE, tyX, Int.natCast_add, Int.natCast_one, Int.cast_ofNat_Int, intC, hki, gM hxm, hw1, hkk, hkM, gM hym, gM hci, gM hck, hcl, hw2, RNode.cells]
        refine hC104 _ ?_; clear hC104 C104
        simp only [bL]
        refine dRun_chunk 2 fun C105 hC105 => ?_
        simp only [bL, ↓dRun, ↓dOp, ↓bO, bS, bA, bF, ↓reduceIte, Nat.reduceEqDiff, reduceCtorEq, undef, aField, fo38_1, Nat.reduceAdd, aLoad, ti28, getO, pack, Nat.reduceLeDiff, tyX, List.length_map, Int.natCast_add, Int.natCast_one, Int.cast_ofNat_Int, intC, hki, gM hxm, hw1, hkk, hkM, gM hym, gM hci, gM hck, hcl, hw2, RNode.cells]
        refine hC105 _ ?_; clear hC105 C105
        simp only [bL]
        refine dRun_chunk 2 fun C106 hC106 => ?_
        simp only [bL, ↓dRun, ↓dOp, ↓bO, bS, bA, bF, ↓reduceIte, Nat.reduceEqDiff, reduceCtorEq, undef, getO, aLenX, aLen, ln28, List.length_map, aBin, tyX, Int.natCast_add, Int.natCast_one, Int.cast_ofNat_Int, intC, hki, gM hxm, hw1, hkk, hkM, gM hym, gM hci, gM hck, hcl, hw2, RNode.cells]
        refine hC106 _ ?_; clear hC106 C106
        simp only [bL]
        simp only [↓dRun, ↓dOp, bL, ↓bO, bS, bA, bF, ↓reduceIte, Nat.reduceEqDiff, reduceCtorEq, aBool, tyX, List.length_map, Int.natCast_add, Int.natCast_one, Int.cast_ofNat_Int, intC, hki, gM hxm, hw1, hkk, hkM, gM hym, gM hci, gM hck, hcl, hw2, RNode.cells]
        refine hK63 _ ?_; try clear hK63 K63
        simp only [bL, aops, bF]
        refine hK62 _ ?_; try clear hK62 K62
        refine AWp_cond (b := true) (by first | exact rfl | exact congrArg (fun b => AV.v (.bool b)) hb128) (fun _ => ?_) (fun h => (by cases h))
        refine AWp_exit ?_
        simp only [bF, bA, Nat.reduceEqDiff, ↓reduceIte]
        refine hK60 _ ?_; try clear hK60 K60
        refine AWp_region ?_
        refine aops_chunk 2 fun C107 hC107 => ?_
        simp only [bL, ↓bO, bS, bA, bF, ↓reduceIte, Nat.reduceEqDiff, reduceCtorEq, aBin, tyX, List.length_map, Int.natCast_add, Int.natCast_one, Int.cast_ofNat_Int, intC, hki, gM hxm, hw1, hkk, hkM, gM hym, gM hci, gM hck, hcl, hw2, RNode.cells]
        refine hC107 _ ?_; clear hC107 C107
        simp only [bL]
        simp only [↓bO, bS, bA, bF, ↓reduceIte, Nat.reduceEqDiff, reduceCtorEq, tyX, List.length_map, Int.natCast_add, Int.natCast_one, Int.cast_ofNat_Int, intC, hki, gM hxm, hw1, hkk, hkM, gM hym, gM hci, gM hck, hcl, hw2, RNode.cells]
        refine ⟨(v.1 + 1, v.2), ⟨by simp only; omega, hv.2.1, fun e => (hv.2.2 e).next hsk⟩, (by simp only; omega), ?_⟩
        simp only [maskL, setsL, putsO, putO, bA, Nat.reduceEqDiff, ↓reduceIte, hkk, hkM, gM hym, gM hci, gM hck, hcl, hw2, RNode.cells, Int.natCast_add, Int.natCast_one, Int.cast_ofNat_Int, intC]
        exact Weak.mk (by simp only [LeL, Le.refl, Le.any, Le.slNil, and_self, Int.natCast_add, Int.cast_ofNat_Int, Int.natCast_one]) (fun _ _ h => h) rfl rfl
       ·
        simp only [List.set_cons_zero, List.set_cons_succ]
        have hk1 : x.t.k ≠ 1 := by simpa using hc99
        refine dRun_chunk 2 fun C108 hC108 => ?_
        simp only [bL, ↓dRun, ↓dOp, ↓bO, bS, bA, bF, ↓reduceIte, Nat.reduceEqDiff, reduceCtorEq, undef, tyX, List.length_map, Int.natCast_add, Int.natCast_one, Int.cast_ofNat_Int, intC, hki, gM hxm, hw1, hkk, hkM, gM hym, gM hci, gM hck, hcl, hw2, RNode.cells]
        refine hC108 _ ?_; clear hC108 C108
        simp only [bL]
        refine dRun_chunk 2 fun C109 hC109 => ?_
        simp only [bL, ↓dRun, ↓dOp, ↓bO, bS, bA, bF, ↓reduceIte, Nat.reduceEqDiff, reduceCtorEq, undef, getO, aIndexA, es27, Int.natCast_nonneg, Int.ofNat_lt, Int.toNat_natCast, List.length_map, Int.le_refl, Int.toNat_zero, Int.toNat_one, Int.reduceLE, aField, fo38_0, Nat.reduceAdd, tyX, Int.natCast_add, Int.natCast_one, Int.cast_ofNat_Int, intC, hki, gM hxm, hw1, hkk, hkM, gM hym, gM hci, gM hck, hcl, hw2, RNode.cells]
        refine hC109 _ ?_; clear hC109 C109
        simp only [bL]
        refine dRun_chunk 2 fun C110 hC110 => ?_
        simp only [bL, ↓dRun, ↓dOp, ↓bO, bS, bA, bF, ↓reduceIte, Nat.reduceEqDiff, reduceCtorEq, undef, aField, fo32_0, Nat.reduceAdd, aLoad, ti3, getO, pack, Nat.reduceLeDiff, tyX, List.length_map, Int.natCast_add, Int.natCast_one, Int.cast_ofNat_Int, intC, hki, gM hxm, hw1, hkk, hkM, gM hym, gM hci, gM hck, hcl, hw2, RNode.cells]
        refine hC110 _ ?_; clear hC110 C110
        simp only [bL]
        refine dRun_chunk 2 fun C111 hC111 => ?_
        simp only [bL, ↓dRun, ↓dOp, ↓bO, bS, bA, bF, ↓reduceIte, Nat.reduceEqDiff, reduceCtorEq, undef, tyX, List.length_map, Int.natCast_add, Int.natCast_one, Int.cast_ofNat_Int, intC, hki, gM hxm, hw1, hkk, hkM, gM hym, gM hci, gM hck, hcl, hw2, RNode.cells]
        refine hC111 _ ?_; clear hC111 C111
        simp only [bL]
        refine dRun_chunk 2 fun C112 hC112 => ?_
        simp only [bL, ↓dRun, ↓dOp, ↓bO, bS, bA, bF, ↓reduceIte, Nat.reduceEqDiff, reduceCtorEq, undef, getO, aIndexA, es27, Int.natCast_nonneg, Int.ofNat_lt, Int.toNat_natCast, List.length_map, Int.le_refl, Int.toNat_zero, Int.toNat_one, Int.reduceLE, aField, fo38_0, Nat.reduceAdd, tyX, Int.natCast_add, Int.natCast_one, Int.cast_ofNat_Int, intC, hki, gM hxm, hw1, hkk, hkM, gM hym, gM hci, gM hck, hcl, hw2, RNode.cells]
        refine hC112 _ ?_; clear hC112 C112
        simp only [bL]
        refine dRun_chunk 2 fun C113 hC113 => ?_
        simp only [bL, ↓dRun, ↓dOp, ↓bO, bS, bA, bF, ↓reduceIte, Nat.reduceEqDiff, reduceCtorEq, undef, aField, fo32_0, Nat.reduceAdd, aLoad, ti3, getO, pack, Nat.reduceLeDiff, tyX, List.length_map, Int.natCast_add, Int.natCast_one, Int.cast_ofNat_Int, intC, hki, gM hxm, hw1, hkk, hkM, gM hym, gM hci, gM hck, hcl, hw2, RNode.cells]
        refine hC113 _ ?_; clear hC113 C113
        simp only [bL]
        refine dRun_chunk 2 fun C114 hC114 => ?_
        simp only [bL, ↓dRun, ↓dOp, ↓bO, bS, bA, bF, ↓reduceIte, Nat.reduceEqDiff, reduceCtorEq, undef, aBin, aBool, tyX, List.length_map, Int.natCast_add, Int.natCast_one, Int.cast_ofNat_Int, intC, hki, gM hxm, hw1, hkk, hkM, gM hym, gM hci, gM hck, hcl, hw2, RNode.cells]
        refine hC114 _ ?_; clear hC114 C114
        simp only [bL]
        refine dRun_chunk 1 fun C115 hC115 => ?_
        simp only [bL, ↓dRun, ↓dOp, ↓bO, bS, bA, bF, ↓reduceIte, Nat.reduceEqDiff, reduceCtorEq, tyX, List.length_map, Int.natCast_add, Int.natCast_one, Int.cast_ofNat_Int, intC, hki, gM hxm, hw1, hkk, hkM, gM hym, gM hci, gM hck, hcl, hw2, RNode.cells]
        refine hC115 _ ?_; clear hC115 C115
        simp only [bL]
        refine dRun_case 114 rfl (fun hc114 => ?_) (fun hc114 => ?_)
        ·
         simp only [List.set_cons_zero, List.set_cons_succ]
         have hkn : ¬ x.t.k = y.t.k := by simpa using hc114
         have hsk : POk M v.2.1 u.1 v.1 := POk.skip hxm hym (by simp [hkn])
         refine dRun_chunk 2 fun C116 hC116 => ?_
         simp only [bL, ↓dRun, ↓dOp, ↓bO, bS, bA, bF, ↓reduceIte, Nat.reduceEqDiff, reduceCtorEq, undef, tyX, List.length_map, Int.natCast_add, Int.natCast_one, Int.cast_ofNat_Int, intC, hki, gM hxm, hw1, hkk, hkM, gM hym, gM hci, gM hck, hcl, hw2, RNode.cells]
         refine hC116 _ ?_; clear hC116 C116
         simp only [bL]
         refine dRun_chunk 2 fun C117 hC117 => ?_
         simp only [bL, ↓dRun, ↓dOp, ↓bO, bS, bA, bF, ↓reduceIte, Nat.reduceEqDiff, reduceCtorEq, undef, getO, aIndexA, es27, Int.natCast_nonneg, Int.ofNat_lt, Int.toNat_natCast, List.length_map, Int.le_refl, Int.toNat_zero, Int.toNat_one, Int.reduceLE, aField, fo38_1, Nat.reduceAdd, tyX, Int.natCast_add, Int.natCast_one, Int.cast_ofNat_Int, intC, hki, gM hxm, hw1, hkk, hkM, gM hym, gM hci, gM hck, hcl, hw2, RNode.cells]
         refine hC117 _ ?_; clear hC117 C117
         simp only [bL]
         refine dRun_chunk 2 fun C118 hC118 => ?_
         simp only [bL, ↓dRun, ↓dOp, ↓bO, bS, bA, bF, ↓reduceIte, Nat.reduceEqDiff, reduceCtorEq, undef, aLoad, ti28, getO, pack, Nat.reduceAdd, Nat.reduceLeDiff, aLenX, aLen, ln28, List.length_map, tyX, Int.natCast_add, Int.natCast_one, Int.cast_ofNat_Int, intC, hki, gM hxm, hw1, hkk, hkM, gM hym, gM hci, gM hck, hcl, hw2, RNode.cells]
         refine hC118 _ ?_; clear hC118 C118
         simp only [bL]
         refine dRun_chunk 2 fun C119 hC119 => ?_
         simp only [bL, ↓dRun, ↓dOp, ↓bO, bS, bA, bF, ↓reduceIte, Nat.reduceEqDiff, reduceCtorEq, undef, tyX, List.length_map, Int.natCast_add, Int.natCast_one, Int.cast_ofNat_Int, intC, hki, gM hxm, hw1, hkk, hkM, gM hym, gM hci, gM hck, hcl, hw2, RNode.cells]
         refine hC119 _ ?_; clear hC119 C119
         simp only [bL]
         refine dRun_chunk 2 fun C120 hC120 => ?_
         simp only [bL, ↓dRun, ↓dOp, ↓bO, bS, bA, bF, ↓reduceIte, Nat.reduceEqDiff, reduceCtorEq, undef, getO, aIndexA, es27, Int.natCast_nonneg, Int.ofNat_lt, Int.toNat_natCast, List.length_map, Int.le_refl, Int.toNat_zero, Int.toNat_one, Int.reduceLE, aField, fo38_1, Nat.reduceAdd, tyX, Int.natCast_add, Int.natCast_one, Int.cast_ofNat_Int, intC, hki, gM hxm, hw1, hkk, hkM, gM hym, gM hci, gM hck, hcl, hw2, RNode.cells]
         refine hC120 _ ?_; clear hC120 C120
         simp only [bL]
         refine dRun_chunk 2 fun C121 hC121 => ?_
         simp only [bL, ↓dRun, ↓dOp, ↓bO, bS, bA, bF, ↓reduceIte, Nat.reduceEqDiff, reduceCtorEq, undef, aLoad, ti28, getO, pack, Nat.reduceAdd, Nat.reduceLeDiff, aLenX, aLen, ln28, List.length_map, tyX, Int.natCast_add, Int.natCast_one, Int.cast_ofNat_Int, intC, hki, gM hxm, hw1, hkk, hkM, gM hym, gM hci, gM hck, hcl, hw2, RNode.cells]
         refine hC121 _ ?_; clear hC121 C121
         simp only [bL]
         simp only [↓dRun, ↓dOp, bL, ↓bO, bS, bA, bF, ↓reduceIte, Nat.reduceEqDiff, reduceCtorEq, undef, aBin, aBool, tyX, List.length_map, Int.natCast_add, Int.natCast_one, Int.cast_ofNat_Int, intC, hki, gM hxm, hw1, hkk, hkM, gM hym, gM hci, gM hck, hcl, hw2, RNode.cells]
         refine hK63 _ ?_; try clear hK63 K63
         simp only [bL, aops, bF]
         refine hK62 _ ?_; try clear hK62 K62
         refine AWp_cond (b := true) (by first | exact rfl | exact congrArg (fun b => AV.v (.bool b)) hb128) (fun _ => ?_) (fun h => (by cases h))
         refine AWp_exit ?_
         simp only [bF, bA, Nat.reduceEqDiff, ↓reduceIte]
         refine hK60 _ ?_; try clear hK60 K60
         refine AWp_region ?_
         refine aops_chunk 2 fun C122 hC122 => ?_
         simp only [bL, ↓bO, bS, bA, bF, ↓reduceIte, Nat.reduceEqDiff, reduceCtorEq, aBin, tyX, List.length_map, Int.natCast_add, Int.natCast_one, Int.cast_ofNat_Int, intC, hki, gM hxm, hw1, hkk, hkM, gM hym, gM hci, gM hck, hcl, hw2, RNode.cells]
         refine hC122 _ ?_; clear hC122 C122
         simp only [bL]
         simp only [↓bO, bS, bA, bF, ↓reduceIte, Nat.reduceEqDiff, reduceCtorEq, tyX, List.length_map, Int.natCast_add, Int.natCast_one, Int.cast_ofNat_Int, intC, hki, gM hxm, hw1, hkk, hkM, gM hym, gM hci, gM hck, hcl, hw2, RNode.cells]
         refine ⟨(v.1 + 1, v.2), ⟨by simp only; omega, hv.2.1, fun e => (hv.2.2 e).next hsk⟩, (by simp only; omega), ?_⟩
         simp only [maskL, setsL, putsO, putO, bA, Nat.reduceEqDiff, ↓reduceIte, hkk, hkM, gM hym, gM hci, gM hck, hcl, hw2, RNode.cells, Int.natCast_add, Int.natCast_one, Int.cast_ofNat_Int, intC]
         exact Weak.mk (by simp only [LeL, Le.refl, Le.any, Le.slNil, and_self, Int.natCast_add, Int.cast_ofNat_Int, Int.natCast_one]) (fun _ _ h => h) rfl rfl
        ·
         simp only [List.set_cons_zero, List.set_cons_succ]
         have hke : x.t.k = y.t.k := by simpa using hc114
         refine dRun_chunk 2 fun C123 hC123 => ?_
         simp only [bL, ↓dRun, ↓dOp, ↓bO, bS, bA, bF, ↓reduceIte, Nat.reduceEqDiff, reduceCtorEq, undef, tyX, List.length_map, Int.natCast_add, Int.natCast_one, Int.cast_ofNat_Int, intC, hki, gM hxm, hw1, hkk, hkM, gM hym, gM hci, gM hck, hcl, hw2, RNode.cells]
         refine hC123 _ ?_; clear hC123 C123
         simp only [bL]
         refine dRun_chunk 2 fun C124 hC124 => ?_
         simp only [bL, ↓dRun, ↓dOp, ↓bO, bS, bA, bF, ↓reduceIte, Nat.reduceEqDiff, reduceCtorEq, undef, getO, aIndexA, es27, Int.natCast_nonneg, Int.ofNat_lt, Int.toNat_natCast, List.length_map, Int.le_refl, Int.toNat_zero, Int.toNat_one, Int.reduceLE, aField, fo38_1, Nat.reduceAdd, tyX, Int.natCast_add, Int.natCast_one, Int.cast_ofNat_Int, intC, hki, gM hxm, hw1, hkk, hkM, gM hym, gM hci, gM hck, hcl, hw2, RNode.cells]
         refine hC124 _ ?_; clear hC124 C124
         simp only [bL]
         refine dRun_chunk 2 fun C125 hC125 => ?_
         simp only [bL, ↓dRun, ↓dOp, ↓bO, bS, bA, bF, ↓reduceIte, Nat.reduceEqDiff, reduceCtorEq, undef, aLoad, ti28, getO, pack, Nat.reduceAdd, Nat.reduceLeDiff, aLenX, aLen, ln28, List.length_map, tyX, Int.natCast_add, Int.natCast_one, Int.cast_ofNat_Int, intC, hki, gM hxm, hw1, hkk, hkM, gM hym, gM hci, gM hck, hcl, hw2, RNode.cells]
         refine hC125 _ ?_; clear hC125 C125
         simp only [bL]
         refine dRun_chunk 2 fun C126 hC126 => ?_
         simp only [bL, ↓dRun, ↓dOp, ↓bO, bS, bA, bF, ↓reduceIte, Nat.reduceEqDiff, reduceCtorEq, undef, tyX, List.length_map, Int.natCast_add, Int.natCast_one, Int.cast_ofNat_Int, intC, hki, gM hxm, hw1, hkk, hkM, gM hym, gM hci, gM hck, hcl, hw2, RNode.cells]
         refine hC126 _ ?_; clear hC126 C126
         simp only [bL]
         refine dRun_chunk 2 fun C127 hC127 => ?_
         simp only [bL, ↓dRun, ↓dOp, ↓bO, bS, bA, bF, ↓reduceIte, Nat.reduceEqDiff, reduceCtorEq, undef, getO, aIndexA, es27, Int.natCast_nonneg, Int.ofNat_lt, Int.toNat_natCast, List.length_map, Int.le_refl, Int.toNat_zero, Int.toNat_one, Int.reduceLE, aField, fo38_1, Nat.reduceAdd, tyX, Int.natCast_add, Int.natCast_one, Int.cast_ofNat_Int, intC, hki, gM hxm, hw1, hkk, hkM, gM hym, gM hci, gM hck, hcl, hw2, RNode.cells]
         refine hC127 _ ?_; clear hC127 C127
         simp only [bL]
         refine dRun_chunk 2 fun C128 hC128 => ?_
         simp only [bL, ↓dRun, ↓dOp, ↓bO, bS, bA, bF, ↓reduceIte, Nat.reduceEqDiff, reduceCtorEq, undef, aLoad, ti28, getO, pack, Nat.reduceAdd, Nat.reduceLeDiff, aLenX, aLen, ln28, List.length_map, tyX, Int.natCast_add, Int.natCast_one, Int.cast_ofNat_Int, intC, hki, gM hxm, hw1, hkk, hkM, gM hym, gM hci, gM hck, hcl, hw2, RNode.cells]
         refine hC128 _ ?_; clear hC128 C128
         simp only [bL]
         simp only [↓dRun, ↓dOp, bL, ↓bO, bS, bA, bF, ↓reduceIte, Nat.reduceEqDiff, reduceCtorEq, undef, aBin, aBool, tyX, List.length_map, Int.natCast_add, Int.natCast_one, Int.cast_ofNat_Int, intC, hki, gM hxm, hw1, hkk, hkM, gM hym, gM hci, gM hck, hcl, hw2, RNode.cells]
         refine hK63 _ ?_; try clear hK63 K63
         simp only [bL, aops, bF]
         refine hK62 _ ?_; try clear hK62 K62
         refine AWp_cond rfl (fun hb128 => ?_) (fun hb128 => ?_)
         ·
          have hlt2 : ¬ x.parts.length = y.parts.length := by (have h9 := hb128; simp at h9; omega)
          have hsk : POk M v.2.1 u.1 v.1 := POk.skip hxm hym (by simp [hlt2])
          refine AWp_exit ?_
          simp only [bF, bA, Nat.reduceEqDiff, ↓reduceIte]
          refine hK60 _ ?_; try clear hK60 K60
          refine AWp_region ?_
          refine aops_chunk 2 fun C129 hC129 => ?_
          simp only [bL, ↓bO, bS, bA, bF, ↓reduceIte, Nat.reduceEqDiff, reduceCtorEq, aBin, tyX, List.length_map, Int.natCast_add, Int.natCast_one, Int.cast_ofNat_Int, intC, hki, gM hxm, hw1, hkk, hkM, gM hym, gM hci, gM hck, hcl, hw2, RNode.cells]
          refine hC129 _ ?_; clear hC129 C129
          simp only [bL]
          simp only [↓bO, bS, bA, bF, ↓reduceIte, Nat.reduceEqDiff, reduceCtorEq, tyX, List.length_map, Int.natCast_add, Int.natCast_one, Int.cast_ofNat_Int, intC, hki, gM hxm, hw1, hkk, hkM, gM hym, gM hci, gM hck, hcl, hw2, RNode.cells]
          refine ⟨(v.1 + 1, v.2), ⟨by simp only; omega, hv.2.1, fun e => (hv.2.2 e).next hsk⟩, (by simp only; omega), ?_⟩
          simp only [maskL, setsL, putsO, putO, bA, Nat.reduceEqDiff, ↓reduceIte, hkk, hkM, gM hym, gM hci, gM hck, hcl, hw2, RNode.cells, Int.natCast_add, Int.natCast_one, Int.cast_ofNat_Int, intC]
          exact Weak.mk (by simp only [LeL, Le.refl, Le.any, Le.slNil, and_self, Int.natCast_add, Int.cast_ofNat_Int, Int.natCast_one]) (fun _ _ h => h) rfl rfl
         ·
          have hln2 : x.parts.length = y.parts.length := by (have h9 := hb128; simp at h9; omega)
          have hclx := hv.2.1.col.sub u.1 v.1 hki hkM (by rw [hci, hck, hcc])
          have h8x := h8 x (List.mem_of_getElem? hxm)
          refine AWp_skip ?_
          try simp only [bF]
          refine hK61 _ ?_; try clear hK61 K61
          refine AWp_seqK fun K130 hK130 => ?_
          refine AWp_region ?_
          simp only [↓bO, bS, bA, bF, ↓reduceIte, Nat.reduceEqDiff, reduceCtorEq, tyX, List.length_map, Int.natCast_add, Int.natCast_one, Int.cast_ofNat_Int, intC, hki, gM hxm, hw1, hkk, hkM, gM hym, gM hci, gM hck, hcl, hw2, RNode.cells]
          refine hK130 _ ?_; try clear hK130 K130
          refine AWp_block ?_
          refine AWp_loopM (σ := Nat × List Int × Bool) [false, false, true, true, false, false, false, false, false, true, false, true, true, true, true, false, false, false, false, false, false, false, false, false, false, false, false, false, false, false, false, false, false, false, false, false, false, false, false, false, false, false, false, false, false, false, false, false, false, false, false, false, false, false, false, false, false, false, false, false, false, false, false, false, false, false, false, false, false, false, false, false, false, false, false, false, false, false, false, false, false, false, false, false, false, false, false, false, false, false, false, false, false, false, false, false, false, false, false, false, false, false, false, false, false, false, false, false, false, false, false, false, false, false, false, false, false, false, false, false, false, false, false, false, false, false, false, false, false, false, false, false, false, false, false, false, false, false, false, false, false, false, false, false, false, false, false, false, false, false, false, false, false, false, false, false, false, false, false, false, false, false, false, false, false, false, false, false, false, false, false, false, false, false, false, false, false, false, false] (fun q => q.1 ≤ x.parts.length ∧ CLoop M (nat2 P) t.1 q.2 ∧ (q.2.2 = false → PAll M q.2.1 u.1 v.1 ∧ PUp M q.2.1 u.1 v.1 q.1)) (fun q => [(9, .sl 1 (q.2.1.map intC)), (11, .v (.bool q.2.2)), (14, .v (.int .i64 (q.1 : Int)))]) (fun q => []) (fun q => x.parts.length - q.1) (0, v.2) (⟨Nat.zero_le _, hv.2.1, fun e => ⟨hv.2.2 e, PUp.zero _ _ _ _⟩⟩) ?_ (fun q hq => ?_)
          ·
           simp only [maskL, setsL, putsO, putO, bA, Nat.reduceEqDiff, ↓reduceIte]
           exact Weak.mk (by simp only [LeL, Le.refl, Le.any, Le.slNil, and_self, Int.natCast_add, Int.cast_ofNat_Int, Int.natCast_one]) (fun _ _ h => h) rfl rfl
          simp only [maskL, setsL, putsO, putO, bA, Nat.reduceEqDiff, ↓reduceIte]
          refine AWp_seqK fun K131 hK131 => ?_
          refine AWp_seqK fun K132 hK132 => ?_
          refine AWp_region ?_
          refine aops_chunk 2 fun C133 hC133 => ?_
          simp only [bL, ↓bO, bS, bA, bF, ↓reduceIte, Nat.reduceEqDiff, reduceCtorEq, tyX, List.length_map, Int.natCast_add, Int.natCast_one, Int.cast_ofNat_Int, intC, hki, gM hxm, hw1, hkk, hkM, gM hym, gM hci, gM hck, hcl, hw2, RNode.cells]
          refine hC133 _ ?_; clear hC133 C133
          simp only [bL]
          refine aops_chunk 2 fun C134 hC134 => ?_
          simp only [bL, ↓bO, bS, bA, bF, ↓reduceIte, Nat.reduceEqDiff, reduceCtorEq, getO, aIndexA, es27, Int.natCast_nonneg, Int.ofNat_lt, Int.toNat_natCast, List.length_map, Int.le_refl, Int.toNat_zero, Int.toNat_one, Int.reduceLE, tyX, Int.natCast_add, Int.natCast_one, Int.cast_ofNat_Int, intC, hki, gM hxm, hw1, hkk, hkM, gM hym, gM hci, gM hck, hcl, hw2, RNode.cells]
          refine hC134 _ ?_; clear hC134 C134
          simp only [bL]
          refine aops_chunk 2 fun C135 hC135 => ?_
          simp only [bL, ↓bO, bS, bA, bF, ↓reduceIte, Nat.reduceEqDiff, reduceCtorEq, aField, fo38_1, Nat.reduceAdd, aLoad, ti28, getO, pack, Nat.reduceLeDiff, tyX, List.length_map, Int.natCast_add, Int.natCast_one, Int.cast_ofNat_Int, intC, hki, gM hxm, hw1, hkk, hkM, gM hym, gM hci, gM hck, hcl, hw2, RNode.cells]
          refine hC135 _ ?_; clear hC135 C135
          simp only [bL]
          simp only [↓bO, bS, bA, bF, ↓reduceIte, Nat.reduceEqDiff, reduceCtorEq, getO, aLenX, aLen, ln28, List.length_map, aBin, tyX, Int.natCast_add, Int.natCast_one, Int.cast_ofNat_Int, intC, hki, gM hxm, hw1, hkk, hkM, gM hym, gM hci, gM hck, hcl, hw2, RNode.cells]
          refine hK132 _ ?_; try clear hK132 K132
          refine AWp_cond rfl (fun hb136 => ?_) (fun hb136 => ?_)
          ·
           have hkj : q.1 < x.parts.length := by simpa using hb136
           have hkj2 : q.1 < y.parts.length := by omega
           obtain ⟨p, hpa⟩ : ∃ p, x.parts[q.1]? = some p := ⟨_, List.getElem?_eq_getElem hkj⟩
           obtain ⟨r, hpb⟩ : ∃ r, y.parts[q.1]? = some r := ⟨_, List.getElem?_eq_getElem hkj2⟩
           have hpm := hMok x (List.mem_of_getElem? hxm) p (List.mem_of_getElem? hpa)
           have hrm := hMok y (List.mem_of_getElem? hym) r (List.mem_of_getElem? hpb)
           obtain ⟨a, rfl⟩ : ∃ a : Nat, p = (a : Int) := ⟨p.toNat, by omega⟩
           obtain ⟨b, rfl⟩ : ∃ b : Nat, r = (b : Int) := ⟨r.toNat, by omega⟩
           have haM : a < M.length := by omega
           have hbM : b < M.length := by omega
           have hcab : Cl (shR M) (nat2 P) a b := Cl.part hclx (shR_of hxm) (by rw [shR_of hym, hke]) hk1 hln2 hpa hpb
           have hcq := hq.2.1.col.len
           have hsa := sameC_in (c := q.2.1) (a := a) (b := b) (by omega) (by omega)
           have hw3 : IntKind.i64.wrap ((q.1 : Int) + 1) = (q.1 : Int) + 1 := wrap_in (by omega) (by omega)
           refine AWp_skip ?_
           try simp only [bF]
           refine hK131 _ ?_; try clear hK131 K131
           refine AWp_seqK fun K136 hK136 => ?_
           refine AWp_block ?_
           refine AWp_seqK fun K137 hK137 => ?_
           refine AWp_drawK 19 mixed (by kernel_rfl) fun K138 hK138 => ?_
           simp only [bL]
           refine dRun_chunk 2 fun C139 hC139 => ?_
           simp only [bL, ↓dRun, ↓dOp, ↓bO, bS, bA, bF, ↓reduceIte, Nat.reduceEqDiff, reduceCtorEq, tyX, List.length_map, Int.natCast_add, Int.natCast_one, Int.cast_ofNat_Int, intC, hki, gM hxm, hw1, hkk, hkM, gM hym, gM hci, gM hck, hcl, hw2, RNode.cells, hkj, hkj2, gM hpa, gM hpb, hw3]
           refine hC139 _ ?_; clear hC139 C139
           simp only [bL]
           refine dRun_chunk 2 fun C140 hC140 => ?_
           simp only [bL, ↓dRun, ↓dOp, ↓bO, bS, bA, bF, ↓reduceIte, Nat.reduceEqDiff, reduceCtorEq, getO, aIndexA, es27, Int.natCast_nonneg, Int.ofNat_lt, Int.toNat_natCast, List.length_map, Int.le_refl, Int.toNat_zero, Int.toNat_one, Int.reduceLE, tyX, Int.natCast_add, Int.natCast_one, Int.cast_ofNat_Int, intC, hki, gM hxm, hw1, hkk, hkM, gM hym, gM hci, gM hck, hcl, hw2, RNode.cells, hkj, hkj2, gM hpa, gM hpb, hw3]
           refine hC140 _ ?_; clear hC140 C140
           simp only [bL]
           refine dRun_chunk 2 fun C141 hC141 => ?_
           simp only [bL, ↓dRun, ↓dOp, ↓bO, bS, bA, bF, ↓reduceIte, Nat.reduceEqDiff, reduceCtorEq, aField, fo38_1, Nat.reduceAdd, aLoad, ti28, getO, pack, Nat.reduceLeDiff, tyX, List.length_map, Int.natCast_add, Int.natCast_one, Int.cast_ofNat_Int, intC, hki, gM hxm, hw1, hkk, hkM, gM hym, gM hci, gM hck, hcl, hw2, RNode.cells, hkj, hkj2, gM hpa, gM hpb, hw3]
           refine hC141 _ ?_; clear hC141 C141
           simp only [bL]
           refine dRun_chunk 2 fun C142 hC142 => ?_
           simp only [bL, ↓dRun, ↓dOp, ↓bO, bS, bA, bF, ↓reduceIte, Nat.reduceEqDiff, reduceCtorEq, getO, aIndexA, es28, Int.natCast_nonneg, Int.ofNat_lt, Int.toNat_natCast, List.length_map, Int.le_refl, Int.toNat_zero, Int.toNat_one, Int.reduceLE, tyX, Int.natCast_add, Int.natCast_one, Int.cast_ofNat_Int, intC, hki, gM hxm, hw1, hkk, hkM, gM hym, gM hci, gM hck, hcl, hw2, RNode.cells, hkj, hkj2, gM hpa, gM hpb, hw3]
           refine hC142 _ ?_; clear hC142 C142
           simp only [bL]
           refine dRun_chunk 2 fun C143 hC143 => ?_
           simp only [bL, ↓dRun, ↓dOp, ↓bO, bS, bA, bF, ↓reduceIte, Nat.reduceEqDiff, reduceCtorEq, aLoad, ti3, getO, pack, Nat.reduceAdd, Nat.reduceLeDiff, tyX, List.length_map, Int.natCast_add, Int.natCast_one, Int.cast_ofNat_Int, intC, hki, gM hxm, hw1, hkk, hkM, gM hym, gM hci, gM hck, hcl, hw2, RNode.cells, hkj, hkj2, gM hpa, gM hpb, hw3]
           refine hC143 _ ?_; clear hC143 C143
           simp only [bL]
           refine dRun_chunk 2 fun C144 hC144 => ?_
           simp only [bL, ↓dRun, ↓dOp, ↓bO, bS, bA, bF, ↓reduceIte, Nat.reduceEqDiff, reduceCtorEq, getO, aIndexA, es27, Int.natCast_nonneg, Int.ofNat_lt, Int.toNat_natCast, List.length_map, Int.le_refl, Int.toNat_zero, Int.toNat_one, Int.reduceLE, tyX, Int.natCast_add, Int.natCast_one, Int.cast_ofNat_Int, intC, hki, gM hxm, hw1, hkk, hkM, gM hym, gM hci, gM hck, hcl, hw2, RNode.cells, hkj, hkj2, gM hpa, gM hpb, hw3]
           refine hC144 _ ?_; clear hC144 C144
           simp only [bL]
           refine dRun_chunk 2 fun C145 hC145 => ?_
           simp only [bL, ↓dRun, ↓dOp, ↓bO, bS, bA, bF, ↓reduceIte, Nat.reduceEqDiff, reduceCtorEq, aField, fo38_1, Nat.reduceAdd, aLoad, ti28, getO, pack, Nat.reduceLeDiff, tyX, List.length_map, Int.natCast_add, Int.natCast_one, Int.cast_ofNat_Int, intC, hki, gM hxm, hw1, hkk, hkM, gM hym, gM hci, gM hck, hcl, hw2, RNode.cells, hkj, hkj2, gM hpa, gM hpb, hw3]
           refine hC145 _ ?_; clear hC145 C145
           simp only [bL]
           refine dRun_chunk 2 fun C146 hC146 => ?_
           simp only [bL, ↓dRun, ↓dOp, ↓bO, bS, bA, bF, ↓reduceIte, Nat.reduceEqDiff, reduceCtorEq, getO, aIndexA, es28, Int.natCast_nonneg, Int.ofNat_lt, Int.toNat_natCast, List.length_map, Int.le_refl, Int.toNat_zero, Int.toNat_one, Int.reduceLE, tyX, Int.natCast_add, Int.natCast_one, Int.cast_ofNat_Int, intC, hki, gM hxm, hw1, hkk, hkM, gM hym, gM hci, gM hck, hcl, hw2, RNode.cells, hkj, hkj2, gM hpa, gM hpb, hw3]
           refine hC146 _ ?_; clear hC146 C146
           simp only [bL]
           refine dRun_chunk 1 fun C147 hC147 => ?_
           simp only [bL, ↓dRun, ↓dOp, ↓bO, bS, bA, bF, ↓reduceIte, Nat.reduceEqDiff, reduceCtorEq, aLoad, ti3, getO, pack, Nat.reduceAdd, Nat.reduceLeDiff, tyX, List.length_map, Int.natCast_add, Int.natCast_one, Int.cast_ofNat_Int, intC, hki, gM hxm, hw1, hkk, hkM, gM hym, gM hci, gM hck, hcl, hw2, RNode.cells, hkj, hkj2, gM hpa, gM hpb, hw3]
           refine hC147 _ ?_; clear hC147 C147
           simp only [bL]
           refine dRun_chunk 1 fun C148 hC148 => ?_
           simp only [bL, ↓dRun, ↓dOp, ↓bO, bS, bA, bF, ↓reduceIte, Nat.reduceEqDiff, reduceCtorEq, aCallV, tyX, List.length_map, Int.natCast_add, Int.natCast_one, Int.cast_ofNat_Int, intC, hki, gM hxm, hw1, hkk, hkM, gM hym, gM hci, gM hck, hcl, hw2, RNode.cells, hkj, hkj2, gM hpa, gM hpb, hw3]
           refine ⟨_, SSame_pure q.2.1 (a : Int) (b : Int), ?_⟩
           try simp only [bS, bA, bF]
           refine hC148 _ ?_; clear hC148 C148
           simp only [bL]
           simp only [↓dRun, ↓dOp, bL, ↓bO, bS, bA, bF, ↓reduceIte, Nat.reduceEqDiff, reduceCtorEq, aUn, tyX, List.length_map, Int.natCast_add, Int.natCast_one, Int.cast_ofNat_Int, intC, hki, gM hxm, hw1, hkk, hkM, gM hym, gM hci, gM hck, hcl, hw2, RNode.cells, hkj, hkj2, gM hpa, gM hpb, hw3]
           refine hK138 _ ?_; try clear hK138 K138
           simp only [bL, aops, bF]
           refine hK137 _ ?_; try clear hK137 K137
           refine AWp_cond rfl (fun hb157 => ?_) (fun hb157 => ?_)
           ·
            have hne : ¬ q.2.1[a]? = q.2.1[b]? := by (have h9 : sameC q.2.1 (a : Int) (b : Int) = false := by simpa using hb157); exact fun e => by rw [hsa.2 e] at h9; cases h9
            refine AWp_seqK fun K149 hK149 => ?_
            refine AWp_drawK 18 mixed (by kernel_rfl) fun K150 hK150 => ?_
            simp only [bL]
            refine dRun_chunk 2 fun C151 hC151 => ?_
            simp only [bL, ↓dRun, ↓dOp, ↓bO, bS, bA, bF, ↓reduceIte, Nat.reduceEqDiff, reduceCtorEq, tyX, List.length_map, Int.natCast_add, Int.natCast_one, Int.cast_ofNat_Int, intC, hki, gM hxm, hw1, hkk, hkM, gM hym, gM hci, gM hck, hcl, hw2, RNode.cells, hkj, hkj2, gM hpa, gM hpb, hw3]
            refine hC151 _ ?_; clear hC151 C151
            simp only [bL]
            refine dRun_chunk 2 fun C152 hC152 => ?_
            simp only [bL, ↓dRun, ↓dOp, ↓bO, bS, bA, bF, ↓reduceIte, Nat.reduceEqDiff, reduceCtorEq, getO, aIndexA, es27, Int.natCast_nonneg, Int.ofNat_lt, Int.toNat_natCast, List.length_map, Int.le_refl, Int.toNat_zero, Int.toNat_one, Int.reduceLE, tyX, Int.natCast_add, Int.natCast_one, Int.cast_ofNat_Int, intC, hki, gM hxm, hw1, hkk, hkM, gM hym, gM hci, gM hck, hcl, hw2, RNode.cells, hkj, hkj2, gM hpa, gM hpb, hw3]
            refine hC152 _ ?_; clear hC152 C152
            simp only [bL]
            refine dRun_chunk 2 fun C153 hC153 => ?_
            simp only [bL, ↓dRun, ↓dOp, ↓bO, bS, bA, bF, ↓reduceIte, Nat.reduceEqDiff, reduceCtorEq, aField, fo38_1, Nat.reduceAdd, aLoad, ti28, getO, pack, Nat.reduceLeDiff, tyX, List.length_map, Int.natCast_add, Int.natCast_one, Int.cast_ofNat_Int, intC, hki, gM hxm, hw1, hkk, hkM, gM hym, gM hci, gM hck, hcl, hw2, RNode.cells, hkj, hkj2, gM hpa, gM hpb, hw3]
            refine hC153 _ ?_; clear hC153 C153
            simp only [bL]
            refine dRun_chunk 2 fun C154 hC154 => ?_
            simp only [bL, ↓dRun, ↓dOp, ↓bO, bS, bA, bF, ↓reduceIte, Nat.reduceEqDiff, reduceCtorEq, getO, aIndexA, es28, Int.natCast_nonneg, Int.ofNat_lt, Int.toNat_natCast, List.length_map, Int.le_refl, Int.toNat_zero, Int.toNat_one, Int.reduceLE, tyX, Int.natCast_add, Int.natCast_one, Int.cast_ofNat_Int, intC, hki, gM hxm, hw1, hkk, hkM, gM hym, gM hci, gM hck, hcl, hw2, RNode.cells, hkj, hkj2, gM hpa, gM hpb, hw3]
            refine hC154 _ ?_; clear hC154 C154
            simp only [bL]
            refine dRun_chunk 2 fun C155 hC155 => ?_
            simp only [bL, ↓dRun, ↓dOp, ↓bO, bS, bA, bF, ↓reduceIte, Nat.reduceEqDiff, reduceCtorEq, aLoad, ti3, getO, pack, Nat.reduceAdd, Nat.reduceLeDiff, tyX, List.length_map, Int.natCast_add, Int.natCast_one, Int.cast_ofNat_Int, intC, hki, gM hxm, hw1, hkk, hkM, gM hym, gM hci, gM hck, hcl, hw2, RNode.cells, hkj, hkj2, gM hpa, gM hpb, hw3]
            refine hC155 _ ?_; clear hC155 C155
            simp only [bL]
            refine dRun_chunk 2 fun C156 hC156 => ?_
            simp only [bL, ↓dRun, ↓dOp, ↓bO, bS, bA, bF, ↓reduceIte, Nat.reduceEqDiff, reduceCtorEq, getO, aIndexA, es27, Int.natCast_nonneg, Int.ofNat_lt, Int.toNat_natCast, List.length_map, Int.le_refl, Int.toNat_zero, Int.toNat_one, Int.reduceLE, tyX, Int.natCast_add, Int.natCast_one, Int.cast_ofNat_Int, intC, hki, gM hxm, hw1, hkk, hkM, gM hym, gM hci, gM hck, hcl, hw2, RNode.cells, hkj, hkj2, gM hpa, gM hpb, hw3]
            refine hC156 _ ?_; clear hC156 C156
            simp only [bL]
            refine dRun_chunk 2 fun C157 hC157 => ?_
            simp only [bL, ↓dRun, ↓dOp, ↓bO, bS, bA, bF, ↓reduceIte, Nat.reduceEqDiff, reduceCtorEq, aField, fo38_1, Nat.reduceAdd, aLoad, ti28, getO, pack, Nat.reduceLeDiff, tyX, List.length_map, Int.natCast_add, Int.natCast_one, Int.cast_ofNat_Int, intC, hki, gM hxm, hw1, hkk, hkM, gM hym, gM hci, gM hck, hcl, hw2, RNode.cells, hkj, hkj2, gM hpa, gM hpb, hw3]
            refine hC157 _ ?_; clear hC157 C157
            simp only [bL]
            refine dRun_chunk 2 fun C158 hC158 => ?_
            simp only [bL, ↓dRun, ↓dOp, ↓bO, bS, bA, bF, ↓reduceIte, Nat.reduceEqDiff, reduceCtorEq, getO, aIndexA, es28, Int.natCast_nonneg, Int.ofNat_lt, Int.toNat_natCast, List.length_map, Int.le_refl, Int.toNat_zero, Int.toNat_one, Int.reduceLE, tyX, Int.natCast_add, Int.natCast_one, Int.cast_ofNat_Int, intC, hki, gM hxm, hw1, hkk, hkM, gM hym, gM hci, gM hck, hcl, hw2, RNode.cells, hkj, hkj2, gM hpa, gM hpb, hw3]
            refine hC158 _ ?_; clear hC158 C158
            simp only [bL]
            refine dRun_chunk 1 fun C159 hC159 => ?_
            simp only [bL, ↓dRun, ↓dOp, ↓bO, bS, bA, bF, ↓reduceIte, Nat.reduceEqDiff, reduceCtorEq, aLoad, ti3, getO, pack, Nat.reduceAdd, Nat.reduceLeDiff, tyX, List.length_map, Int.natCast_add, Int.natCast_one, Int.cast_ofNat_Int, intC, hki, gM hxm, hw1, hkk, hkM, gM hym, gM hci, gM hck, hcl, hw2, RNode.cells, hkj, hkj2, gM hpa, gM hpb, hw3]
            refine hC159 _ ?_; clear hC159 C159
            simp only [bL]
            simp only [↓dRun, ↓dOp, bL, ↓bO, bS, bA, bF, ↓reduceIte, Nat.reduceEqDiff, reduceCtorEq, aCallV, tyX, List.length_map, Int.natCast_add, Int.natCast_one, Int.cast_ofNat_Int, intC, hki, gM hxm, hw1, hkk, hkM, gM hym, gM hci, gM hck, hcl, hw2, RNode.cells, hkj, hkj2, gM hpa, gM hpb, hw3]
            refine ⟨_, SJoin_pure q.2.1 a b (by omega) (by omega) (by omega), ?_⟩
            try simp only [bS, bA, bF]
            refine hK150 _ ?_; try clear hK150 K150
            simp only [bL]
            simp only [↓bO, bS, bA, bF, ↓reduceIte, Nat.reduceEqDiff, reduceCtorEq, tyX, List.length_map, Int.natCast_add, Int.natCast_one, Int.cast_ofNat_Int, intC, hki, gM hxm, hw1, hkk, hkM, gM hym, gM hci, gM hck, hcl, hw2, RNode.cells, hkj, hkj2, gM hpa, gM hpb, hw3]
            refine hK149 _ ?_; try clear hK149 K149
            refine AWp_region ?_
            simp only [↓bO, bS, bA, bF, ↓reduceIte, Nat.reduceEqDiff, reduceCtorEq, tyX, List.length_map, Int.natCast_add, Int.natCast_one, Int.cast_ofNat_Int, intC, hki, gM hxm, hw1, hkk, hkM, gM hym, gM hci, gM hck, hcl, hw2, RNode.cells, hkj, hkj2, gM hpa, gM hpb, hw3]
            refine hK136 _ ?_; try clear hK136 K136
            refine AWp_region ?_
            refine aops_chunk 2 fun C160 hC160 => ?_
            simp only [bL, ↓bO, bS, bA, bF, ↓reduceIte, Nat.reduceEqDiff, reduceCtorEq, aBin, tyX, List.length_map, Int.natCast_add, Int.natCast_one, Int.cast_ofNat_Int, intC, hki, gM hxm, hw1, hkk, hkM, gM hym, gM hci, gM hck, hcl, hw2, RNode.cells, hkj, hkj2, gM hpa, gM hpb, hw3]
            refine hC160 _ ?_; clear hC160 C160
            simp only [bL]
            simp only [↓bO, bS, bA, bF, ↓reduceIte, Nat.reduceEqDiff, reduceCtorEq, tyX, List.length_map, Int.natCast_add, Int.natCast_one, Int.cast_ofNat_Int, intC, hki, gM hxm, hw1, hkk, hkM, gM hym, gM hci, gM hck, hcl, hw2, RNode.cells, hkj, hkj2, gM hpa, gM hpb, hw3]
            refine ⟨(q.1 + 1, joinC q.2.1 a b, true), ⟨by simp only; omega, hq.2.1.join haM hbM hcab hne, fun e => (by cases e)⟩, (by simp only; omega), ?_⟩
            simp only [maskL, setsL, putsO, putO, bA, Nat.reduceEqDiff, ↓reduceIte, hkj, hkj2, gM hpa, gM hpb, hw3, Int.natCast_add, Int.natCast_one, Int.cast_ofNat_Int, intC]
            exact Weak.mk (by simp only [LeL, Le.refl, Le.any, Le.slNil, and_self, Int.natCast_add, Int.cast_ofNat_Int, Int.natCast_one]) (fun _ _ h => h) rfl rfl
           ·
            have hsm : q.2.1[a]? = q.2.1[b]? := by (have h9 : sameC q.2.1 (a : Int) (b : Int) = true := by simpa using hb157); exact hsa.1 h9
            refine AWp_skip ?_
            try simp only [bF]
            refine hK136 _ ?_; try clear hK136 K136
            refine AWp_region ?_
            refine aops_chunk 2 fun C161 hC161 => ?_
            simp only [bL, ↓bO, bS, bA, bF, ↓reduceIte, Nat.reduceEqDiff, reduceCtorEq, aBin, tyX, List.length_map, Int.natCast_add, Int.natCast_one, Int.cast_ofNat_Int, intC, hki, gM hxm, hw1, hkk, hkM, gM hym, gM hci, gM hck, hcl, hw2, RNode.cells, hkj, hkj2, gM hpa, gM hpb, hw3]
            refine hC161 _ ?_; clear hC161 C161
            simp only [bL]
            simp only [↓bO, bS, bA, bF, ↓reduceIte, Nat.reduceEqDiff, reduceCtorEq, tyX, List.length_map, Int.natCast_add, Int.natCast_one, Int.cast_ofNat_Int, intC, hki, gM hxm, hw1, hkk, hkM, gM hym, gM hci, gM hck, hcl, hw2, RNode.cells, hkj, hkj2, gM hpa, gM hpb, hw3]
            refine ⟨(q.1 + 1, q.2), ⟨by simp only; omega, hq.2.1, fun e => ⟨(hq.2.2 e).1, (hq.2.2 e).2.next hxm hym hpa hpb (by simpa using hsm)⟩⟩, (by simp only; omega), ?_⟩
            simp only [maskL, setsL, putsO, putO, bA, Nat.reduceEqDiff, ↓reduceIte, hkj, hkj2, gM hpa, gM hpb, hw3, Int.natCast_add, Int.natCast_one, Int.cast_ofNat_Int, intC]
            exact Weak.mk (by simp only [LeL, Le.refl, Le.any, Le.slNil, and_self, Int.natCast_add, Int.cast_ofNat_Int, Int.natCast_one]) (fun _ _ h => h) rfl rfl
          ·
           have hkq : q.1 = x.parts.length := by have h9 := hb136; simp at h9; have := hq.1; omega
           refine AWp_exit ?_
           simp only [bF, bA, Nat.reduceEqDiff, ↓reduceIte]
           refine hK60 _ ?_; try clear hK60 K60
           refine AWp_region ?_
           refine aops_chunk 2 fun C162 hC162 => ?_
           simp only [bL, ↓bO, bS, bA, bF, ↓reduceIte, Nat.reduceEqDiff, reduceCtorEq, aBin, tyX, List.length_map, Int.natCast_add, Int.natCast_one, Int.cast_ofNat_Int, intC, hki, gM hxm, hw1, hkk, hkM, gM hym, gM hci, gM hck, hcl, hw2, RNode.cells]
           refine hC162 _ ?_; clear hC162 C162
           simp only [bL]
           simp only [↓bO, bS, bA, bF, ↓reduceIte, Nat.reduceEqDiff, reduceCtorEq, tyX, List.length_map, Int.natCast_add, Int.natCast_one, Int.cast_ofNat_Int, intC, hki, gM hxm, hw1, hkk, hkM, gM hym, gM hci, gM hck, hcl, hw2, RNode.cells]
           refine ⟨(v.1 + 1, q.2), ⟨by simp only; omega, hq.2.1, fun e => (hq.2.2 e).1.next (POk.all hxm (hkq ▸ (hq.2.2 e).2))⟩, (by simp only; omega), ?_⟩
           simp only [maskL, setsL, putsO, putO, bA, Nat.reduceEqDiff, ↓reduceIte, hkk, hkM, gM hym, gM hci, gM hck, hcl, hw2, RNode.cells, Int.natCast_add, Int.natCast_one, Int.cast_ofNat_Int, intC]
           exact Weak.mk (by simp only [LeL, Le.refl, Le.any, Le.slNil, and_self, Int.natCast_add, Int.cast_ofNat_Int, Int.natCast_one]) (fun _ _ h => h) rfl rfl
     ·
      have hkv : v.1 = u.1 := by have h9 := hb78; simp at h9; have := hv.1; omega
      refine AWp_exit ?_
      simp only [bF, bA, Nat.reduceEqDiff, ↓reduceIte]
      refine hK55 _ ?_; try clear hK55 K55
      refine AWp_region ?_
      refine aops_chunk 2 fun C163 hC163 => ?_
      simp only [bL, ↓bO, bS, bA, bF, ↓reduceIte, Nat.reduceEqDiff, reduceCtorEq, aBin, tyX, List.length_map, Int.natCast_add, Int.natCast_one, Int.cast_ofNat_Int, intC, hki, gM hxm, hw1]
      refine hC163 _ ?_; clear hC163 C163
      simp only [bL]
      simp only [↓bO, bS, bA, bF, ↓reduceIte, Nat.reduceEqDiff, reduceCtorEq, tyX, List.length_map, Int.natCast_add, Int.natCast_one, Int.cast_ofNat_Int, intC, hki, gM hxm, hw1]
      refine ⟨(u.1 + 1, v.2), ⟨by simp only; omega, hv.2.1, fun e => (hkv ▸ hv.2.2 e).row⟩, (by simp only; omega), ?_⟩
      simp only [maskL, setsL, putsO, putO, bA, Nat.reduceEqDiff, ↓reduceIte, hki, gM hxm, hw1, Int.natCast_add, Int.natCast_one, Int.cast_ofNat_Int, intC]
      exact Weak.mk (by simp only [LeL, Le.refl, Le.any, Le.slNil, and_self, Int.natCast_add, Int.cast_ofNat_Int, Int.natCast_one]) (fun _ _ h => h) rfl rfl
    ·
     have hku : u.1 = M.length := by have h9 := hb73; simp at h9; have := hu.1; omega
     refine AWp_exit ?_
     simp only [bF, bA, Nat.reduceEqDiff, ↓reduceIte]
     refine ⟨u.2, ⟨hu.2.1.col, hu.2.1.held, fun e => hku ▸ hu.2.2 e⟩, (by have h9 := hu.2.1.end'; have h8 : t.2.toNat = 1 := (by rw [htt]; rfl); omega), ?_⟩
     exact Weak.mk (by simp only [LeL, Le.refl, Le.any, and_self]) (fun _ _ h => h) rfl rfl
   ·
    have htt : t.2 = false := hb69
    refine AWp_exit ?_
    simp only [bF, bA, Nat.reduceEqDiff, ↓reduceIte]
    refine hK46 _ ?_; try clear hK46 K46
    refine AWp_seqK fun K164 hK164 => ?_
    refine AWp_region ?_
    refine aops_chunk 2 fun C165 hC165 => ?_
    simp only [bL, ↓bO, bS, bA, bF, ↓reduceIte, Nat.reduceEqDiff, reduceCtorEq, tyX, List.length_map]
    refine hC165 _ ?_; clear hC165 C165
    simp only [bL]
    simp only [↓bO, bS, bA, bF, ↓reduceIte, Nat.reduceEqDiff, reduceCtorEq, aBuild, zc111, pc111, aFill, splice, bL, Nat.reduceAdd, Nat.reduceLeDiff, aStore, ti111, getO, putO, tyX, List.length_map]
    refine hK164 _ ?_; try clear hK164 K164
    refine AWp_ret ?_
    try simp only [bF, retQ, aRes, tupOf, bS, bA, aLoad, getO, pack, bL, Nat.reduceAdd, Nat.reduceLeDiff, Nat.reduceEqDiff, ↓reduceIte, ti111, tyX, List.length_map]
    refine ⟨.agg [.sl 4 (M.map RNode.cells), .sl 1 (t.1.map intC)], [], ⟨t.1, ⟨ht.1, ht.2.1, (ht.2.2 htt).1⟩, rfl, rfl⟩, Und.data (RNode.oneData _ _), trivial, Le.refl _, ⟨2, rfl, rfl⟩, by omega⟩
end Go.Proofs.Ytohdoloalolpfaa
