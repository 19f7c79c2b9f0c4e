/- Texts of the abstract walk, of the contracts and of the plain laws, packed (part 38 of 39): Sg9 Sg3 Sg4 SigP Sg5 Sg6 Sg7 Sg8 Types Sizes Ref11 Rob1 TxL TkL Sg10 TkR. Conditions: none. -/
import Derived.Test.YtnlonnnhofagaaaDoorPk37
import Derived.Lib.ItoaLen
namespace Go.Proofs.YtnlonnnhofagaaaDoor
open Go Go.RowKit
set_option maxRecDepth 100000
set_option maxHeartbeats 4000000
set_option linter.unusedSimpArgs false
set_option linter.unusedVariables false
set_option linter.unnecessarySimpa false
attribute [local irreducible] aops dRun
theorem RLetter_pure (c : Int) : APure Tryd.prog 24 [.v (.int .u8 c)] (.v (.bool (smI c))) := by
  refine APure.mkL (.cons (.v _) .nil) (.v _) ?_
  refine ACalls_intro Tryd.func24 (by kernel_rfl) rfl (by rw [Tryd.ntmps24]; simp) (fun hm => ?_)
  simp only [Tryd.ntmps24, Tryd.results24, List.length_cons, List.length_nil, Nat.reduceAdd, Nat.reduceSub, List.replicate_succ, List.replicate_zero, List.cons_append, List.nil_append]
  refine AWp_seqK fun Y0 y0 => ?_
  refine AWp_region ?_
  simp only [↓bO, go_sem, seval]
  refine y0 _ ?_
  try clear y0 Y0
  refine AWp_seqK fun Y0 y0 => ?_
  refine AWp_region ?_
  iterate 3 (refine aops_chunk 1 fun Q0 q0 => ?_; simp only [↓bO, go_sem, seval]; refine q0 _ ?_; clear q0 Q0; simp only [go_sem])
  refine aops_case 5 rfl (fun hc5 => ?_) (fun hc5 => ?_)
  ·
   simp only [List.set_cons_zero, List.set_cons_succ]
   iterate 3 (refine aops_chunk 1 fun Q0 q0 => ?_; simp only [↓bO, go_sem, seval]; refine q0 _ ?_; clear q0 Q0; simp only [go_sem])
   simp only [↓bO, go_sem, seval]
   refine y0 _ ?_
   try clear y0 Y0
   refine AWp_ret ?_
   try simp only [thenQ, blockQ, noGotoQ, retQ, aRes, tupOf, bS, bA]
   refine Le.of_eq (congrArg (fun b => AV.v (.bool b)) ?_)
   rw [Bool.eq_iff_iff]
   simp only [smI, decide_eq_true_eq, decide_eq_false_iff_not, Bool.or_eq_true, beq_iff_eq, Bool.false_eq_true, beq_eq_false_iff_ne, ne_eq, false_iff, true_iff, iff_true, iff_false, Bool.true_eq_false, not_and, not_or, Int.not_le, ge_iff_le] at *
   try omega
  ·
   simp only [List.set_cons_zero, List.set_cons_succ]
   iterate 3 (refine aops_chunk 1 fun Q0 q0 => ?_; simp only [↓bO, go_sem, seval]; refine q0 _ ?_; clear q0 Q0; simp only [go_sem])
   simp only [↓bO, go_sem, seval]
   refine y0 _ ?_
   try clear y0 Y0
   refine AWp_ret ?_
   try simp only [thenQ, blockQ, noGotoQ, retQ, aRes, tupOf, bS, bA]
   refine Le.of_eq (congrArg (fun b => AV.v (.bool b)) ?_)
   rw [Bool.eq_iff_iff]
   simp only [smI, decide_eq_true_eq, decide_eq_false_iff_not, Bool.or_eq_true, beq_iff_eq, Bool.false_eq_true, beq_eq_false_iff_ne, ne_eq, false_iff, true_iff, iff_true, iff_false, Bool.true_eq_false, not_and, not_or, Int.not_le, ge_iff_le] at *
   try omega
theorem RDigit_pure (c : Int) : APure Tryd.prog 27 [.v (.int .u8 c)] (.v (.bool (dgI c))) := by
  refine APure.mkL (.cons (.v _) .nil) (.v _) ?_
  refine ACalls_intro Tryd.func27 (by kernel_rfl) rfl (by rw [Tryd.ntmps27]; simp) (fun hm => ?_)
  simp only [Tryd.ntmps27, Tryd.results27, List.length_cons, List.length_nil, Nat.reduceAdd, Nat.reduceSub, List.replicate_succ, List.replicate_zero, List.cons_append, List.nil_append]
  refine AWp_seqK fun Y0 y0 => ?_
  refine AWp_region ?_
  simp only [↓bO, go_sem, seval]
  refine y0 _ ?_
  try clear y0 Y0
  refine AWp_seqK fun Y0 y0 => ?_
  refine AWp_region ?_
  iterate 3 (refine aops_chunk 1 fun Q0 q0 => ?_; simp only [↓bO, go_sem, seval]; refine q0 _ ?_; clear q0 Q0; simp only [go_sem])
  refine aops_case 5 rfl (fun hc5 => ?_) (fun hc5 => ?_)
  ·
   simp only [List.set_cons_zero, List.set_cons_succ]
   iterate 3 (refine aops_chunk 1 fun Q0 q0 => ?_; simp only [↓bO, go_sem, seval]; refine q0 _ ?_; clear q0 Q0; simp only [go_sem])
   simp only [↓bO, go_sem, seval]
   refine y0 _ ?_
   try clear y0 Y0
   refine AWp_ret ?_
   try simp only [thenQ, blockQ, noGotoQ, retQ, aRes, tupOf, bS, bA]
   refine Le.of_eq (congrArg (fun b => AV.v (.bool b)) ?_)
   rw [Bool.eq_iff_iff]
   simp only [dgI, decide_eq_true_eq, decide_eq_false_iff_not, Bool.or_eq_true, beq_iff_eq, Bool.false_eq_true, beq_eq_false_iff_ne, ne_eq, false_iff, true_iff, iff_true, iff_false, Bool.true_eq_false, not_and, not_or, Int.not_le, ge_iff_le] at *
   try omega
  ·
   simp only [List.set_cons_zero, List.set_cons_succ]
   iterate 3 (refine aops_chunk 1 fun Q0 q0 => ?_; simp only [↓bO, go_sem, seval]; refine q0 _ ?_; clear q0 Q0; simp only [go_sem])
   simp only [↓bO, go_sem, seval]
   refine y0 _ ?_
   try clear y0 Y0
   refine AWp_ret ?_
   try simp only [thenQ, blockQ, noGotoQ, retQ, aRes, tupOf, bS, bA]
   refine Le.of_eq (congrArg (fun b => AV.v (.bool b)) ?_)
   rw [Bool.eq_iff_iff]
   simp only [dgI, decide_eq_true_eq, decide_eq_false_iff_not, Bool.or_eq_true, beq_iff_eq, Bool.false_eq_true, beq_eq_false_iff_ne, ne_eq, false_iff, true_iff, iff_true, iff_false, Bool.true_eq_false, not_and, not_or, Int.not_le, ge_iff_le] at *
   try omega
theorem RInner_pure (c : Int) : APure Tryd.prog 25 [.v (.int .u8 c)] (.v (.bool (inI c))) := by
  refine APure.mkL (.cons (.v _) .nil) (.v _) ?_
  refine ACalls_intro Tryd.func25 (by kernel_rfl) rfl (by rw [Tryd.ntmps25]; simp) (fun hm => ?_)
  simp only [Tryd.ntmps25, Tryd.results25, List.length_cons, List.length_nil, Nat.reduceAdd, Nat.reduceSub, List.replicate_succ, List.replicate_zero, List.cons_append, List.nil_append]
  refine AWp_seqK fun Y0 y0 => ?_
  refine AWp_region ?_
  simp only [↓bO, go_sem, seval]
  refine y0 _ ?_
  try clear y0 Y0
  refine AWp_seqK fun Y0 y0 => ?_
  refine AWp_region ?_
  refine aops_chunk 1 fun Q0 q0 => ?_
  simp only [↓bO, go_sem, seval]
  refine q0 _ ?_
  clear q0 Q0
  simp only [go_sem]
  refine aops_chunk 1 fun Q0 q0 => ?_
  simp only [↓bO, go_sem, seval]
  refine APure.call (RLetter_pure c) ?_
  try simp only [bS, bA, thenQ, blockQ, noGotoQ]
  refine q0 _ ?_
  clear q0 Q0
  simp only [go_sem]
  refine aops_chunk 1 fun Q0 q0 => ?_
  simp only [↓bO, go_sem, seval]
  refine q0 _ ?_
  clear q0 Q0
  simp only [go_sem]
  refine aops_case 5 rfl (fun hc5 => ?_) (fun hc5 => ?_)
  ·
   simp only [List.set_cons_zero, List.set_cons_succ]
   iterate 7 (refine aops_chunk 1 fun Q0 q0 => ?_; simp only [↓bO, go_sem, seval]; refine q0 _ ?_; clear q0 Q0; simp only [go_sem])
   simp only [↓bO, go_sem, seval]
   refine y0 _ ?_
   try clear y0 Y0
   refine AWp_ret ?_
   try simp only [thenQ, blockQ, noGotoQ, retQ, aRes, tupOf, bS, bA]
   refine Le.of_eq (congrArg (fun b => AV.v (.bool b)) ?_)
   simp_all [inI]
  ·
   simp only [List.set_cons_zero, List.set_cons_succ]
   refine aops_chunk 1 fun Q0 q0 => ?_
   simp only [↓bO, go_sem, seval]
   refine q0 _ ?_
   clear q0 Q0
   simp only [go_sem]
   refine aops_chunk 1 fun Q0 q0 => ?_
   simp only [↓bO, go_sem, seval]
   refine APure.call (RDigit_pure c) ?_
   try simp only [bS, bA, thenQ, blockQ, noGotoQ]
   iterate 2 (refine q0 _ ?_; clear q0 Q0; simp only [go_sem]; refine aops_chunk 1 fun Q0 q0 => ?_; simp only [↓bO, go_sem, seval])
   refine q0 _ ?_
   clear q0 Q0
   simp only [go_sem]
   refine aops_case 9 rfl (fun hc9 => ?_) (fun hc9 => ?_)
   ·
    simp only [List.set_cons_zero, List.set_cons_succ]
    iterate 3 (refine aops_chunk 1 fun Q0 q0 => ?_; simp only [↓bO, go_sem, seval]; refine q0 _ ?_; clear q0 Q0; simp only [go_sem])
    simp only [↓bO, go_sem, seval]
    refine y0 _ ?_
    try clear y0 Y0
    refine AWp_ret ?_
    try simp only [thenQ, blockQ, noGotoQ, retQ, aRes, tupOf, bS, bA]
    refine Le.of_eq (congrArg (fun b => AV.v (.bool b)) ?_)
    simp_all [inI]
   ·
    simp only [List.set_cons_zero, List.set_cons_succ]
    iterate 3 (refine aops_chunk 1 fun Q0 q0 => ?_; simp only [↓bO, go_sem, seval]; refine q0 _ ?_; clear q0 Q0; simp only [go_sem])
    simp only [↓bO, go_sem, seval]
    refine y0 _ ?_
    try clear y0 Y0
    refine AWp_ret ?_
    try simp only [thenQ, blockQ, noGotoQ, retQ, aRes, tupOf, bS, bA]
    refine Le.of_eq (congrArg (fun b => AV.v (.bool b)) ?_)
    simp_all [inI]
def kwR : List ByteArray := [⟨#[102, 117, 110]⟩, ⟨#[108, 101, 116]⟩, ⟨#[114, 101, 99]⟩, ⟨#[105, 110]⟩, ⟨#[105, 102]⟩, ⟨#[116, 104, 101, 110]⟩, ⟨#[101, 108, 115, 101]⟩, ⟨#[116, 114, 117, 101]⟩, ⟨#[102, 97, 108, 115, 101]⟩, ⟨#[105, 110, 116]⟩, ⟨#[98, 111, 111, 108]⟩]
theorem bs11_1 : (11 * 1 ≤ 2 ^ 24) = True := eq_true (by decide)
theorem bs11_2 : (11 * 2 ≤ 2 ^ 24) = True := eq_true (by decide)
theorem bs11_3 : (11 * 3 ≤ 2 ^ 24) = True := eq_true (by decide)
theorem bs11_4 : (11 * 4 ≤ 2 ^ 24) = True := eq_true (by decide)
theorem bs11_5 : (11 * 5 ≤ 2 ^ 24) = True := eq_true (by decide)
theorem bs11_6 : (11 * 6 ≤ 2 ^ 24) = True := eq_true (by decide)
theorem bs11_7 : (11 * 7 ≤ 2 ^ 24) = True := eq_true (by decide)
theorem bs11_8 : (11 * 8 ≤ 2 ^ 24) = True := eq_true (by decide)
theorem bs11_9 : (11 * 9 ≤ 2 ^ 24) = True := eq_true (by decide)
theorem bs11_10 : (11 * 10 ≤ 2 ^ 24) = True := eq_true (by decide)
theorem bs11_11 : (11 * 11 ≤ 2 ^ 24) = True := eq_true (by decide)
theorem bs11_12 : (11 * 12 ≤ 2 ^ 24) = True := eq_true (by decide)
theorem kwR_eq : kwR = kwL := by kernel_rfl
theorem kwR_any (s : ByteArray) : (kwR.any fun x => eqS x s) = kwB s := by
  unfold kwB
  rw [kwR_eq]
  congr 1
  funext x
  rw [Bool.eq_iff_iff, eqS_iff, eqS_iff]
  exact eq_comm
theorem anyS_false {l : List ByteArray} {f : ByteArray → Bool} (h : ∀ (i : Nat) (p : ByteArray), i < l.length → l[i]? = some p → f p = false) : l.any f = false := any_false_of h
theorem RKey_pure (s : ByteArray) : APure Tryd.prog 26 [.v (.string s)] (.v (.bool (kwB s))) := by
  refine APure.mkL (.cons (.v _) .nil) (.v _) ?_
  refine ACalls_intro Tryd.func26 (by kernel_rfl) rfl (by rw [Tryd.ntmps26]; simp) (fun hm => ?_)
  simp only [Tryd.ntmps26, Tryd.results26, List.length_cons, List.length_nil, Nat.reduceAdd, Nat.reduceSub, List.replicate_succ, List.replicate_zero, List.cons_append, List.nil_append]
  refine AWp_seqK fun Y0 y0 => ?_
  refine AWp_region ?_
  simp only [↓bO, go_sem, seval]
  refine y0 _ ?_
  try clear y0 Y0
  refine AWp_seqK fun Y0 y0 => ?_
  refine AWp_region ?_
  refine aops_chunk 1 fun Q0 q0 => ?_
  simp only [↓bO, go_sem, seval, ↓bs11_1, ↓bs11_2, ↓bs11_3, ↓bs11_4, ↓bs11_5, ↓bs11_6, ↓bs11_7, ↓bs11_8, ↓bs11_9, ↓bs11_10, ↓bs11_11, ↓bs11_12]
  refine q0 _ ?_
  clear q0 Q0
  simp only [go_sem]
  simp only [↓bO, go_sem, seval]
  refine y0 _ ?_
  try clear y0 Y0
  refine AWp_seqK fun Y0 y0 => ?_
  refine AWp_seqK fun Y1 y1 => ?_
  refine AWp_region ?_
  simp only [↓bO, go_sem, seval]
  refine y1 _ ?_
  try clear y1 Y1
  refine AWp_block ?_
  refine AWp_loopM (σ := Nat) (mB 18 25) (fun z => z ≤ 11 ∧ ∀ (i : Nat) (p : ByteArray), i < z → kwR[i]? = some p → eqS p s = false) (fun z => [(3, .sl 1 (kwR.map strC)), (4, .v (.int .i64 (z : Int)))]) (fun z => []) (fun z => 11 - z) 0 (⟨by omega, fun i p hi => by omega⟩) ?_ (fun z hz => ?_)
  ·
   simp only [maskL, setsL, putsO, putO, mB, List.set_cons_zero, List.set_cons_succ, seval, kwR, bL, strC]
   exact Weak.mk (by simp only [go_sem, Le.refl, Le.any, Le.slNil, Int.natCast_add, Int.cast_ofNat_Int, Int.natCast_one]) (fun _ _ h => h) rfl rfl
  simp only [maskL, setsL, putsO, putO, mB, List.set_cons_zero, List.set_cons_succ, seval]
  refine AWp_seqK fun Y1 y1 => ?_
  refine AWp_seqK fun Y2 y2 => ?_
  refine AWp_region ?_
  iterate 3 (refine aops_chunk 1 fun Q0 q0 => ?_; simp only [↓bO, go_sem, seval]; refine q0 _ ?_; clear q0 Q0; simp only [go_sem])
  simp only [↓bO, go_sem, seval]
  refine y2 _ ?_
  try clear y2 Y2
  refine AWp_cond rfl (fun hb9 => ?_) (fun hb9 => ?_)
  ·
   have hk : z < kwR.length := by simpa using hb9
   have hk1 : z < 11 := hk
   obtain ⟨p, hp⟩ : ∃ p, kwR[z]? = some p := ⟨_, List.getElem?_eq_getElem hk⟩
   have hw : IntKind.i64.wrap ((z : Int) + 1) = (z : Int) + 1 := wrap_in (by omega) (by omega)
   refine AWp_skip ?_
   try simp only [thenQ, blockQ, noGotoQ]
   refine y1 _ ?_
   try clear y1 Y1
   refine AWp_seqK fun Y1 y1 => ?_
   refine AWp_block ?_
   refine AWp_seqK fun Y2 y2 => ?_
   refine AWp_region ?_
   iterate 5 (refine aops_chunk 1 fun Q0 q0 => ?_; simp only [↓bO, go_sem, seval, hk, gM hp, Int.natCast_add, hw, strC]; refine q0 _ ?_; clear q0 Q0; simp only [go_sem])
   simp only [↓bO, go_sem, seval, hk, gM hp, Int.natCast_add, hw, strC]
   refine y2 _ ?_
   try clear y2 Y2
   refine AWp_cond rfl (fun hb17 => ?_) (fun hb17 => ?_)
   ·
    refine AWp_seqK fun Y2 y2 => ?_
    refine AWp_region ?_
    simp only [↓bO, go_sem, seval, hk, gM hp, Int.natCast_add, hw, strC]
    refine y2 _ ?_
    try clear y2 Y2
    refine AWp_ret ?_
    try simp only [thenQ, blockQ, noGotoQ, retQ, aRes, tupOf, bS, bA]
    refine Le.of_eq (congrArg (fun b => AV.v (.bool b)) ?_)
    rw [← kwR_any]
    exact (all_not_of (f := fun x => eqS x s) hp hb17).symm
   ·
    refine AWp_skip ?_
    try simp only [thenQ, blockQ, noGotoQ]
    refine y1 _ ?_
    try clear y1 Y1
    refine AWp_region ?_
    iterate 2 (refine aops_chunk 1 fun Q0 q0 => ?_; simp only [↓bO, go_sem, seval, hk, gM hp, Int.natCast_add, hw, strC]; refine q0 _ ?_; clear q0 Q0; simp only [go_sem])
    simp only [↓bO, go_sem, seval, hk, gM hp, Int.natCast_add, hw, strC]
    refine ⟨(z + 1), ⟨by omega, fun i p' hi h1 => (by rcases Nat.lt_or_ge i z with h3 | h3 <;> first | exact hz.2 i p' h3 h1 | (obtain rfl : i = z := (by omega); rw [hp] at h1; cases h1; exact hb17))⟩, (by omega), ?_⟩
    simp only [maskL, setsL, putsO, putO, mB, List.set_cons_zero, List.set_cons_succ, seval, hk, gM hp, Int.natCast_add, Int.natCast_one, hw, strC]
    exact Weak.mk (by simp only [go_sem, Le.refl, Le.any, Le.slNil, Int.natCast_add, Int.cast_ofNat_Int, Int.natCast_one]) (fun _ _ h => h) rfl rfl
  ·
   have hk : ¬ z < kwR.length := by simpa using hb9
   have hk1 : z = 11 := by (have h9 : kwR.length = 11 := rfl; omega)
   refine AWp_exit ?_
   simp only [thenQ, blockQ, noGotoQ, bA, Nat.reduceEqDiff, ↓reduceIte]
   refine y0 _ ?_
   try clear y0 Y0
   refine AWp_seqK fun Y0 y0 => ?_
   refine AWp_region ?_
   simp only [↓bO, go_sem, seval]
   refine y0 _ ?_
   try clear y0 Y0
   refine AWp_ret ?_
   try simp only [thenQ, blockQ, noGotoQ, retQ, aRes, tupOf, bS, bA]
   refine Le.of_eq (congrArg (fun b => AV.v (.bool b)) ?_)
   rw [← kwR_any]
   exact (anyS_false fun i p hi h1 => hz.2 i p (by omega) h1).symm
theorem RWords_pure (s : ByteArray) (hs : s.size ≤ 1048576) : APure Tryd.prog 15 [.v (.string s)] (.tup [.sl 4 ((wdA s).1.map Tok.cells), .v (.int .i64 (wdA s).2.1), .v (.int .i64 (wdA s).2.2)]) := by
  refine APure.mkL (.cons (.v _) .nil) (.tup (.cons (Tok.dataSl _) (.cons (.v _) (.cons (.v _) .nil)))) ?_
  refine ACalls_intro Tryd.func15 (by kernel_rfl) rfl (by rw [Tryd.ntmps15]; simp) (fun hm => ?_)
  simp only [Tryd.ntmps15, Tryd.results15, List.length_cons, List.length_nil, Nat.reduceAdd, Nat.reduceSub, List.replicate_succ, List.replicate_zero, List.cons_append, List.nil_append]
  refine AWp_seqK fun Y0 y0 => ?_
  refine AWp_region ?_
  iterate 2 (refine aops_chunk 1 fun Q0 q0 => ?_; simp only [↓bO, go_sem, seval, Tok.cells]; refine q0 _ ?_; clear q0 Q0; simp only [go_sem])
  iterate 2 (simp only [↓bO, go_sem, seval, Tok.cells]; refine y0 _ ?_; (try clear y0 Y0); refine AWp_seqK fun Y0 y0 => ?_; refine AWp_region ?_)
  simp only [↓bO, go_sem, seval, Tok.cells]
  refine y0 _ ?_
  try clear y0 Y0
  refine AWp_seqK fun Y0 y0 => ?_
  refine AWp_block ?_
  refine AWp_weak (Weak.tokSlot 5 51 4 rfl) ?_
  simp only [List.set_cons_zero, List.set_cons_succ]
  refine AWp_loopM (σ := WS) (mB 181 97) (fun w => w.ok s (wdA s)) (fun w => [(5, .osl 0 4 (w.out.map Tok.cells)), (6, .v (.int .i64 (w.i : Int)))]) (fun w => [(0, .tok 51 4 w.out.length)]) (fun w => s.size + 1 - w.i) ⟨s.size + 1, 0, []⟩ (WS.start s) ?_ (fun w hw => ?_)
  ·
   try simp only [maskL, setsL, putsO, putO, mB, List.set_cons_zero, List.set_cons_succ, seval, bL, Int.natCast_zero]
   exact Weak.mk (by simp only [go_sem, Le.refl, Le.any, Le.slNil, Int.natCast_add, Int.cast_ofNat_Int, Int.natCast_one]) (fun _ _ h => h) rfl rfl
  simp only [maskL, setsL, putsO, putO, mB, List.set_cons_zero, List.set_cons_succ, seval]
  have hwi := hw.2.2
  have hw1 : IntKind.i64.wrap ((w.i : Int) + 1) = ((w.i + 1 : Nat) : Int) := by (rw [wrap_in (by omega) (by omega)]; omega)
  refine AWp_seqK fun Y1 y1 => ?_
  refine AWp_seqK fun Y2 y2 => ?_
  refine AWp_region ?_
  iterate 3 (refine aops_chunk 1 fun Q0 q0 => ?_; simp only [↓bO, go_sem, seval, Tok.cells, hw1, List.map_append, List.length_append]; refine q0 _ ?_; clear q0 Q0; simp only [go_sem])
  simp only [↓bO, go_sem, seval, Tok.cells, hw1, List.map_append, List.length_append]
  refine y2 _ ?_
  try clear y2 Y2
  refine AWp_cond rfl (fun hb13 => ?_) (fun hb13 => ?_)
  ·
   have hi : w.i < s.size := by simpa using hb13
   refine AWp_skip ?_
   try simp only [thenQ, blockQ, noGotoQ]
   refine y1 _ ?_
   try clear y1 Y1
   refine AWp_block ?_
   refine AWp_seqK fun Y1 y1 => ?_
   refine AWp_region ?_
   iterate 3 (refine aops_chunk 1 fun Q0 q0 => ?_; simp only [↓bO, go_sem, seval, Tok.cells, hw1, List.map_append, List.length_append, hi]; refine q0 _ ?_; clear q0 Q0; simp only [go_sem])
   simp only [↓bO, go_sem, seval, Tok.cells, hw1, List.map_append, List.length_append, hi]
   refine y1 _ ?_
   try clear y1 Y1
   refine AWp_seqK fun Y1 y1 => ?_
   have hcc : ((((s[w.i]?).getD 0).toNat : Nat) : Int) = bt s w.i := rfl
   simp only [hcc]
   refine AWp_joinM (mB 181 1073742049) ([(30, .v (.bool (blI (bt s w.i))))]) ([]) ?_ ?_
   ·
    refine AWp_region ?_
    iterate 3 (refine aops_chunk 1 fun Q0 q0 => ?_; simp only [↓bO, go_sem, seval, Tok.cells, hw1, List.map_append, List.length_append, hi]; refine q0 _ ?_; clear q0 Q0; simp only [go_sem])
    refine aops_case 19 rfl (fun hc19 => ?_) (fun hc19 => ?_)
    ·
     simp only [List.set_cons_zero, List.set_cons_succ]
     iterate 10 (refine aops_chunk 1 fun Q0 q0 => ?_; simp only [↓bO, go_sem, seval, Tok.cells, hw1, List.map_append, List.length_append, hi]; refine q0 _ ?_; clear q0 Q0; simp only [go_sem])
     simp only [↓bO, go_sem, seval, Tok.cells, hw1, List.map_append, List.length_append, hi]
     try simp only [maskL, setsL, putsO, putO, mB, List.set_cons_zero, List.set_cons_succ, seval]
     refine Weak.mk ?_ (fun _ _ h => h) rfl rfl
     simp only [go_sem, Le.refl, Le.any]
     all_goals (refine Le.of_eq (congrArg (fun b => AV.v (.bool b)) ?_); first | (simp_all [blI]; done) | (simp [blI] at *; omega))
    ·
     simp only [List.set_cons_zero, List.set_cons_succ]
     iterate 4 (refine aops_chunk 1 fun Q0 q0 => ?_; simp only [↓bO, go_sem, seval, Tok.cells, hw1, List.map_append, List.length_append, hi]; refine q0 _ ?_; clear q0 Q0; simp only [go_sem])
     refine aops_case 23 rfl (fun hc23 => ?_) (fun hc23 => ?_)
     ·
      simp only [List.set_cons_zero, List.set_cons_succ]
      iterate 6 (refine aops_chunk 1 fun Q0 q0 => ?_; simp only [↓bO, go_sem, seval, Tok.cells, hw1, List.map_append, List.length_append, hi]; refine q0 _ ?_; clear q0 Q0; simp only [go_sem])
      simp only [↓bO, go_sem, seval, Tok.cells, hw1, List.map_append, List.length_append, hi]
      try simp only [maskL, setsL, putsO, putO, mB, List.set_cons_zero, List.set_cons_succ, seval]
      refine Weak.mk ?_ (fun _ _ h => h) rfl rfl
      simp only [go_sem, Le.refl, Le.any]
      all_goals (refine Le.of_eq (congrArg (fun b => AV.v (.bool b)) ?_); first | (simp_all [blI]; done) | (simp [blI] at *; omega))
     ·
      simp only [List.set_cons_zero, List.set_cons_succ]
      iterate 4 (refine aops_chunk 1 fun Q0 q0 => ?_; simp only [↓bO, go_sem, seval, Tok.cells, hw1, List.map_append, List.length_append, hi]; refine q0 _ ?_; clear q0 Q0; simp only [go_sem])
      refine aops_case 27 rfl (fun hc27 => ?_) (fun hc27 => ?_)
      ·
       simp only [List.set_cons_zero, List.set_cons_succ]
       iterate 2 (refine aops_chunk 1 fun Q0 q0 => ?_; simp only [↓bO, go_sem, seval, Tok.cells, hw1, List.map_append, List.length_append, hi]; refine q0 _ ?_; clear q0 Q0; simp only [go_sem])
       simp only [↓bO, go_sem, seval, Tok.cells, hw1, List.map_append, List.length_append, hi]
       try simp only [maskL, setsL, putsO, putO, mB, List.set_cons_zero, List.set_cons_succ, seval]
       refine Weak.mk ?_ (fun _ _ h => h) rfl rfl
       simp only [go_sem, Le.refl, Le.any]
       all_goals (refine Le.of_eq (congrArg (fun b => AV.v (.bool b)) ?_); first | (simp_all [blI]; done) | (simp [blI] at *; omega))
      ·
       simp only [List.set_cons_zero, List.set_cons_succ]
       iterate 2 (refine aops_chunk 1 fun Q0 q0 => ?_; simp only [↓bO, go_sem, seval, Tok.cells, hw1, List.map_append, List.length_append, hi]; refine q0 _ ?_; clear q0 Q0; simp only [go_sem])
       simp only [↓bO, go_sem, seval, Tok.cells, hw1, List.map_append, List.length_append, hi]
       try simp only [maskL, setsL, putsO, putO, mB, List.set_cons_zero, List.set_cons_succ, seval]
       refine Weak.mk ?_ (fun _ _ h => h) rfl rfl
       simp only [go_sem, Le.refl, Le.any]
       all_goals (refine Le.of_eq (congrArg (fun b => AV.v (.bool b)) ?_); first | (simp_all [blI]; done) | (simp [blI] at *; omega))
   simp only [maskL, setsL, putsO, putO, mB, List.set_cons_zero, List.set_cons_succ, seval]
   refine AWp_cond rfl (fun hb30 => ?_) (fun hb30 => ?_)
   ·
    have hbl : blI (bt s w.i) = true := hb30
    refine AWp_seqK fun Y2 y2 => ?_
    refine AWp_region ?_
    iterate 2 (refine aops_chunk 1 fun Q0 q0 => ?_; simp only [↓bO, go_sem, seval, Tok.cells, hw1, List.map_append, List.length_append, hi]; refine q0 _ ?_; clear q0 Q0; simp only [go_sem])
    simp only [↓bO, go_sem, seval, Tok.cells, hw1, List.map_append, List.length_append, hi]
    refine y2 _ ?_
    try clear y2 Y2
    refine AWp_exit ?_
    simp only [thenQ, blockQ, noGotoQ, bA, Nat.reduceEqDiff, ↓reduceIte]
    refine ⟨⟨w.f - 1, w.i + 1, w.out⟩, hw.blank hi hbl, (by first | (simp only; omega) | (have h9 := htk.2; simp only; omega) | (have h9 := runN_pos (p := fun c => c != 10) hi (by rw [hc35]; decide); simp only; omega)), ?_⟩
    try simp only [maskL, setsL, putsO, putO, mB, List.set_cons_zero, List.set_cons_succ, seval, Tok.cells, hw1, List.map_append, bL, List.length_append, hi]
    exact Weak.mk (by simp only [go_sem, Le.refl, Le.any, Le.slNil, Int.natCast_add, Int.cast_ofNat_Int, Int.natCast_one]) (fun _ _ h => h) rfl rfl
   ·
    have hbl : blI (bt s w.i) = false := hb30
    refine AWp_skip ?_
    try simp only [thenQ, blockQ, noGotoQ]
    refine y1 _ ?_
    try clear y1 Y1
    refine AWp_seqK fun Y1 y1 => ?_
    refine AWp_seqK fun Y2 y2 => ?_
    refine AWp_region ?_
    refine aops_chunk 1 fun Q0 q0 => ?_
    simp only [↓bO, go_sem, seval, Tok.cells, hw1, List.map_append, List.length_append, hi]
    refine q0 _ ?_
    clear q0 Q0
    simp only [go_sem]
    simp only [↓bO, go_sem, seval, Tok.cells, hw1, List.map_append, List.length_append, hi]
    refine y2 _ ?_
    try clear y2 Y2
    refine AWp_cond rfl (fun hb34 => ?_) (fun hb34 => ?_)
    ·
     have hc35 : bt s w.i = 35 := by simpa using hb34
     refine AWp_seqK fun Y2 y2 => ?_
     refine AWp_block ?_
     refine AWp_loopM (σ := Nat) (mB 181 97) (fun n => 0 ≤ n ∧ w.i + n ≤ s.size ∧ ∀ k, k < n → (fun c => c != 10) (bt s (w.i + k)) = true) (fun n => [(6, .v (.int .i64 ((w.i + n : Nat) : Int)))]) (fun n => []) (fun n => s.size - (w.i + n)) 0 (⟨by omega, by omega, fun k hk => by omega⟩) ?_ (fun n hnn => ?_)
     ·
      try simp only [maskL, setsL, putsO, putO, mB, List.set_cons_zero, List.set_cons_succ, seval, bL]
      exact Weak.mk (by simp only [go_sem, Le.refl, Le.any, Le.slNil, Int.natCast_add, Int.cast_ofNat_Int, Int.natCast_one]) (fun _ _ h => h) rfl rfl
     simp only [maskL, setsL, putsO, putO, mB, List.set_cons_zero, List.set_cons_succ, seval]
     have hwn : IntKind.i64.wrap (((w.i + n : Nat) : Int) + 1) = ((w.i + (n + 1) : Nat) : Int) := by (rw [wrap_in (by omega) (by omega)]; omega)
     refine AWp_seqK fun Y3 y3 => ?_
     refine AWp_seqK fun Y4 y4 => ?_
     refine AWp_region ?_
     iterate 5 (refine aops_chunk 1 fun Q0 q0 => ?_; simp only [↓bO, go_sem, seval, Tok.cells, hw1, List.map_append, List.length_append, hwn, hi]; refine q0 _ ?_; clear q0 Q0; simp only [go_sem])
     refine aops_case 39 rfl (fun hc39 => ?_) (fun hc39 => ?_)
     ·
      simp only [List.set_cons_zero, List.set_cons_succ]
      have hlt : w.i + n < s.size := by simpa using hc39
      have hcn : ((((s[w.i + n]?).getD 0).toNat : Nat) : Int) = bt s (w.i + n) := rfl
      iterate 4 (refine aops_chunk 1 fun Q0 q0 => ?_; simp only [↓bO, go_sem, seval, Tok.cells, hw1, List.map_append, List.length_append, hwn, hi, hlt, hcn]; refine q0 _ ?_; clear q0 Q0; simp only [go_sem])
      simp only [↓bO, go_sem, seval, Tok.cells, hw1, List.map_append, List.length_append, hwn, hi, hlt, hcn]
      refine y4 _ ?_
      try clear y4 Y4
      refine AWp_cond rfl (fun hb44 => ?_) (fun hb44 => ?_)
      ·
       refine AWp_skip ?_
       try simp only [thenQ, blockQ, noGotoQ]
       refine y3 _ ?_
       try clear y3 Y3
       refine AWp_block ?_
       refine AWp_region ?_
       iterate 2 (refine aops_chunk 1 fun Q0 q0 => ?_; simp only [↓bO, go_sem, seval, Tok.cells, hw1, List.map_append, List.length_append, hwn, hi, hlt, hcn]; refine q0 _ ?_; clear q0 Q0; simp only [go_sem])
       simp only [↓bO, go_sem, seval, Tok.cells, hw1, List.map_append, List.length_append, hwn, hi, hlt, hcn]
       refine ⟨(n + 1), ⟨by omega, by omega, fun k hk9 => (by rcases Nat.lt_or_ge k n with h3 | h3 <;> first | exact hnn.2.2 k h3 | (obtain rfl : k = n := (by omega); exact (by have h9 := hb44; simpa using h9)))⟩, by omega, ?_⟩
       try simp only [maskL, setsL, putsO, putO, mB, List.set_cons_zero, List.set_cons_succ, seval, hwn, hi, hlt, hcn]
       exact Weak.mk (by simp only [go_sem, Le.refl, Le.any, Le.slNil, Int.natCast_add, Int.cast_ofNat_Int, Int.natCast_one]) (fun _ _ h => h) rfl rfl
      ·
       have hrun1 : runN s w.i (fun c => c != 10) = n := runN_eq (by omega) (fun k hk => hnn.2.2 k hk) (fun hh => by (show (fun c => c != 10) (bt s (w.i + n)) = false; simpa using hb44))
       refine AWp_exit ?_
       simp only [thenQ, blockQ, noGotoQ, bA, Nat.reduceEqDiff, ↓reduceIte]
       refine y2 _ ?_
       try clear y2 Y2
       refine AWp_exit ?_
       simp only [thenQ, blockQ, noGotoQ, bA, Nat.reduceEqDiff, ↓reduceIte]
       refine ⟨⟨w.f - 1, w.i + n, w.out⟩, hw.rem hi hbl hc35 hrun1, (by first | (simp only; omega) | (have h9 := htk.2; simp only; omega) | (have h9 := runN_pos (p := fun c => c != 10) hi (by rw [hc35]; decide); simp only; omega)), ?_⟩
       try simp only [maskL, setsL, putsO, putO, mB, List.set_cons_zero, List.set_cons_succ, seval, Tok.cells, hw1, List.map_append, bL, List.length_append, hi, hlt, hcn]
       exact Weak.mk (by simp only [go_sem, Le.refl, Le.any, Le.slNil, Int.natCast_add, Int.cast_ofNat_Int, Int.natCast_one]) (fun _ _ h => h) rfl rfl
     ·
      simp only [List.set_cons_zero, List.set_cons_succ]
      have hge : ¬ w.i + n < s.size := by simpa using hc39
      have hrun1 : runN s w.i (fun c => c != 10) = n := runN_eq (by omega) (fun k hk => hnn.2.2 k hk) (fun hh => absurd hh hge)
      iterate 4 (refine aops_chunk 1 fun Q0 q0 => ?_; simp only [↓bO, go_sem, seval, Tok.cells, hw1, List.map_append, List.length_append, hi]; refine q0 _ ?_; clear q0 Q0; simp only [go_sem])
      simp only [↓bO, go_sem, seval, Tok.cells, hw1, List.map_append, List.length_append, hi]
      refine y4 _ ?_
      try clear y4 Y4
      refine AWp_cond (b := false) (by first | exact rfl | exact congrArg (fun b => AV.v (.bool b)) hb44) (fun h => (by cases h)) (fun _ => ?_)
      refine AWp_exit ?_
      simp only [thenQ, blockQ, noGotoQ, bA, Nat.reduceEqDiff, ↓reduceIte]
      refine y2 _ ?_
      try clear y2 Y2
      refine AWp_exit ?_
      simp only [thenQ, blockQ, noGotoQ, bA, Nat.reduceEqDiff, ↓reduceIte]
      refine ⟨⟨w.f - 1, w.i + n, w.out⟩, hw.rem hi hbl hc35 hrun1, (by first | (simp only; omega) | (have h9 := htk.2; simp only; omega) | (have h9 := runN_pos (p := fun c => c != 10) hi (by rw [hc35]; decide); simp only; omega)), ?_⟩
      try simp only [maskL, setsL, putsO, putO, mB, List.set_cons_zero, List.set_cons_succ, seval, Tok.cells, hw1, List.map_append, bL, List.length_append, hi]
      exact Weak.mk (by simp only [go_sem, Le.refl, Le.any, Le.slNil, Int.natCast_add, Int.cast_ofNat_Int, Int.natCast_one]) (fun _ _ h => h) rfl rfl
    ·
     have hc35 : ¬ bt s w.i = 35 := by simpa using hb34
     refine AWp_skip ?_
     try simp only [thenQ, blockQ, noGotoQ]
     refine y1 _ ?_
     try clear y1 Y1
     refine AWp_seqK fun Y1 y1 => ?_
     refine AWp_region ?_
     iterate 2 (refine aops_chunk 1 fun Q0 q0 => ?_; simp only [↓bO, go_sem, seval, Tok.cells, hw1, List.map_append, List.length_append, hi]; refine q0 _ ?_; clear q0 Q0; simp only [go_sem])
     simp only [↓bO, go_sem, seval, Tok.cells, hw1, List.map_append, List.length_append, hi]
     refine y1 _ ?_
     try clear y1 Y1
     refine AWp_seqK fun Y1 y1 => ?_
     refine AWp_region ?_
     simp only [↓bO, go_sem, seval, Tok.cells, hw1, List.map_append, List.length_append, hi]
     refine y1 _ ?_
     try clear y1 Y1
     refine AWp_joinE (σ := Int × Nat) (mB 181 865) (fun j => [(8, .v (.int .i64 ((w.i + j.2 : Nat) : Int))), (9, .v (.int .i64 j.1))]) (fun j => []) (fun j => nxF s w.i = (j.1, j.2, 0)) ?_ (fun j hj => ?_)
     ·
      refine AWp_block ?_
      refine AWp_seqK fun Y1 y1 => ?_
      refine AWp_region ?_
      refine aops_chunk 1 fun Q0 q0 => ?_
      simp only [↓bO, go_sem, seval, Tok.cells, hw1, List.map_append, List.length_append, hi]
      refine q0 _ ?_
      clear q0 Q0
      simp only [go_sem]
      refine aops_chunk 1 fun Q0 q0 => ?_
      simp only [↓bO, go_sem, seval, Tok.cells, hw1, List.map_append, List.length_append, hi]
      refine APure.call (RLetter_pure _) ?_
      try simp only [bS, bA, thenQ, blockQ, noGotoQ]
      refine q0 _ ?_
      clear q0 Q0
      simp only [go_sem]
      simp only [↓bO, go_sem, seval, Tok.cells, hw1, List.map_append, List.length_append, hi]
      refine y1 _ ?_
      try clear y1 Y1
      refine AWp_cond rfl (fun hb49 => ?_) (fun hb49 => ?_)
      ·
       have hsm : smI (bt s w.i) = true := hb49
       have hin0 : inI (bt s (w.i + 0)) = true := by (rw [Nat.add_zero]; unfold inI; rw [hsm]; rfl)
       refine AWp_seqK fun Y1 y1 => ?_
       refine AWp_block ?_
       refine AWp_loopM (σ := Nat) (mB 181 353) (fun n => 1 ≤ n ∧ w.i + n ≤ s.size ∧ ∀ k, k < n → (inI) (bt s (w.i + k)) = true) (fun n => [(8, .v (.int .i64 ((w.i + n : Nat) : Int)))]) (fun n => []) (fun n => s.size - (w.i + n)) 1 (⟨by omega, by omega, fun k hk => by obtain rfl : k = 0 := (by omega); exact hin0⟩) ?_ (fun n hnn => ?_)
       ·
        try simp only [maskL, setsL, putsO, putO, mB, List.set_cons_zero, List.set_cons_succ, seval, bL]
        exact Weak.mk (by simp only [go_sem, Le.refl, Le.any, Le.slNil, Int.natCast_add, Int.cast_ofNat_Int, Int.natCast_one]) (fun _ _ h => h) rfl rfl
       simp only [maskL, setsL, putsO, putO, mB, List.set_cons_zero, List.set_cons_succ, seval]
       have hwn : IntKind.i64.wrap (((w.i + n : Nat) : Int) + 1) = ((w.i + (n + 1) : Nat) : Int) := by (rw [wrap_in (by omega) (by omega)]; omega)
       refine AWp_seqK fun Y2 y2 => ?_
       refine AWp_seqK fun Y3 y3 => ?_
       refine AWp_region ?_
       iterate 5 (refine aops_chunk 1 fun Q0 q0 => ?_; simp only [↓bO, go_sem, seval, Tok.cells, hw1, List.map_append, List.length_append, hwn, hi]; refine q0 _ ?_; clear q0 Q0; simp only [go_sem])
       refine aops_case 56 rfl (fun hc56 => ?_) (fun hc56 => ?_)
       ·
        simp only [List.set_cons_zero, List.set_cons_succ]
        have hlt : w.i + n < s.size := by simpa using hc56
        have hcn : ((((s[w.i + n]?).getD 0).toNat : Nat) : Int) = bt s (w.i + n) := rfl
        iterate 3 (refine aops_chunk 1 fun Q0 q0 => ?_; simp only [↓bO, go_sem, seval, Tok.cells, hw1, List.map_append, List.length_append, hwn, hi, hlt, hcn]; refine q0 _ ?_; clear q0 Q0; simp only [go_sem])
        refine aops_chunk 1 fun Q0 q0 => ?_
        simp only [↓bO, go_sem, seval, Tok.cells, hw1, List.map_append, List.length_append, hwn, hi, hlt, hcn]
        refine APure.call (RInner_pure _) ?_
        try simp only [bS, bA, thenQ, blockQ, noGotoQ]
        refine q0 _ ?_
        clear q0 Q0
        simp only [go_sem]
        simp only [↓bO, go_sem, seval, Tok.cells, hw1, List.map_append, List.length_append, hwn, hi, hlt, hcn]
        refine y3 _ ?_
        try clear y3 Y3
        refine AWp_cond rfl (fun hb61 => ?_) (fun hb61 => ?_)
        ·
         refine AWp_skip ?_
         try simp only [thenQ, blockQ, noGotoQ]
         refine y2 _ ?_
         try clear y2 Y2
         refine AWp_block ?_
         refine AWp_region ?_
         iterate 2 (refine aops_chunk 1 fun Q0 q0 => ?_; simp only [↓bO, go_sem, seval, Tok.cells, hw1, List.map_append, List.length_append, hwn, hi, hlt, hcn]; refine q0 _ ?_; clear q0 Q0; simp only [go_sem])
         simp only [↓bO, go_sem, seval, Tok.cells, hw1, List.map_append, List.length_append, hwn, hi, hlt, hcn]
         refine ⟨(n + 1), ⟨by omega, by omega, fun k hk9 => (by rcases Nat.lt_or_ge k n with h3 | h3 <;> first | exact hnn.2.2 k h3 | (obtain rfl : k = n := (by omega); exact hb61))⟩, by omega, ?_⟩
         try simp only [maskL, setsL, putsO, putO, mB, List.set_cons_zero, List.set_cons_succ, seval, hwn, hi, hlt, hcn]
         exact Weak.mk (by simp only [go_sem, Le.refl, Le.any, Le.slNil, Int.natCast_add, Int.cast_ofNat_Int, Int.natCast_one]) (fun _ _ h => h) rfl rfl
        ·
         have hrun2 : runN s w.i (inI) = n := runN_eq (by omega) (fun k hk => hnn.2.2 k hk) (fun hh => by (show (inI) (bt s (w.i + n)) = false; simpa using hb61))
         refine AWp_exit ?_
         simp only [thenQ, blockQ, noGotoQ, bA, Nat.reduceEqDiff, ↓reduceIte]
         refine y1 _ ?_
         try clear y1 Y1
         refine AWp_seqK fun Y1 y1 => ?_
         refine AWp_region ?_
         simp only [↓bO, go_sem, seval, Tok.cells, hw1, List.map_append, List.length_append, hi, hlt, hcn]
         refine y1 _ ?_
         try clear y1 Y1
         refine AWp_joinM (mB 181 865) ([(9, .v (.int .i64 (if kwB (s.extract w.i (w.i + n)) = true then 3 else 1)))]) ([]) ?_ ?_
         ·
          have hsl1 : ((w.i : Int) ≤ ((w.i + n : Nat) : Int)) = True := eq_true (by omega)
          have hsl2 : (((w.i + n : Nat) : Int) ≤ (s.size : Int)) = True := eq_true (by omega)
          refine AWp_seqK fun Y1 y1 => ?_
          refine AWp_region ?_
          iterate 4 (refine aops_chunk 1 fun Q0 q0 => ?_; simp only [↓bO, go_sem, seval, Tok.cells, hw1, List.map_append, List.length_append, hi, hlt, hcn, hsl1, hsl2]; refine q0 _ ?_; clear q0 Q0; simp only [go_sem])
          simp only [↓bO, go_sem, seval, Tok.cells, hw1, List.map_append, List.length_append, hi, hlt, hcn, hsl1, hsl2]
          refine APure.call (RKey_pure _) ?_
          try simp only [bS, bA, thenQ, blockQ, noGotoQ]
          refine y1 _ ?_
          try clear y1 Y1
          refine AWp_cond rfl (fun hb68 => ?_) (fun hb68 => ?_)
          ·
           have hkw : kwB (s.extract w.i (w.i + n)) = true := hb68
           refine AWp_region ?_
           simp only [↓bO, go_sem, seval, Tok.cells, hw1, List.map_append, List.length_append, hi, hlt, hcn, hsl1, hsl2]
           try simp only [maskL, setsL, putsO, putO, mB, List.set_cons_zero, List.set_cons_succ, seval]
           simp only [hkw, Bool.false_eq_true, if_true, if_false]
           exact Weak.mk (by simp only [go_sem, Le.refl, Le.any]) (fun _ _ h => h) rfl rfl
          ·
           have hkw : kwB (s.extract w.i (w.i + n)) = false := hb68
           refine AWp_skip ?_
           try simp only [thenQ, blockQ, noGotoQ]
           try simp only [maskL, setsL, putsO, putO, mB, List.set_cons_zero, List.set_cons_succ, seval]
           simp only [hkw, Bool.false_eq_true, if_true, if_false]
           exact Weak.mk (by simp only [go_sem, Le.refl, Le.any]) (fun _ _ h => h) rfl rfl
         simp only [maskL, setsL, putsO, putO, mB, List.set_cons_zero, List.set_cons_succ, seval]
         have hw4 : IntKind.i64.wrap (((w.i + n : Nat) : Int) - (w.i : Int)) = ((n : Nat) : Int) := by (rw [wrap_in (by omega) (by omega)]; omega)
         refine AWp_joinM (mB 181 75557863725914323420001) ([(76, .v (.bool (decide (kwB (s.extract w.i (w.i + n)) = false ∧ 20 < n))))]) ([]) ?_ ?_
         ·
          refine AWp_region ?_
          iterate 3 (refine aops_chunk 1 fun Q0 q0 => ?_; simp only [↓bO, go_sem, seval, Tok.cells, hw1, List.map_append, List.length_append, hi, hlt, hcn, hw4]; refine q0 _ ?_; clear q0 Q0; simp only [go_sem])
          refine aops_case 71 rfl (fun hc71 => ?_) (fun hc71 => ?_)
          ·
           simp only [List.set_cons_zero, List.set_cons_succ]
           iterate 4 (refine aops_chunk 1 fun Q0 q0 => ?_; simp only [↓bO, go_sem, seval, Tok.cells, hw1, List.map_append, List.length_append, hi, hlt, hcn, hw4]; refine q0 _ ?_; clear q0 Q0; simp only [go_sem])
           simp only [↓bO, go_sem, seval, Tok.cells, hw1, List.map_append, List.length_append, hi, hlt, hcn, hw4]
           try simp only [maskL, setsL, putsO, putO, mB, List.set_cons_zero, List.set_cons_succ, seval]
           refine Weak.mk ?_ (fun _ _ h => h) rfl rfl
           simp only [go_sem, Le.refl, Le.any]
           all_goals (refine Le.of_eq (congrArg (fun b => AV.v (.bool b)) ?_); first | (cases hkv : kwB (s.extract w.i (w.i + n)) <;> simp_all; done) | (cases hkv : kwB (s.extract w.i (w.i + n)) <;> simp_all <;> omega))
          ·
           simp only [List.set_cons_zero, List.set_cons_succ]
           iterate 4 (refine aops_chunk 1 fun Q0 q0 => ?_; simp only [↓bO, go_sem, seval, Tok.cells, hw1, List.map_append, List.length_append, hi, hlt, hcn, hw4]; refine q0 _ ?_; clear q0 Q0; simp only [go_sem])
           simp only [↓bO, go_sem, seval, Tok.cells, hw1, List.map_append, List.length_append, hi, hlt, hcn, hw4]
           try simp only [maskL, setsL, putsO, putO, mB, List.set_cons_zero, List.set_cons_succ, seval]
           refine Weak.mk ?_ (fun _ _ h => h) rfl rfl
           simp only [go_sem, Le.refl, Le.any]
           all_goals (refine Le.of_eq (congrArg (fun b => AV.v (.bool b)) ?_); first | (cases hkv : kwB (s.extract w.i (w.i + n)) <;> simp_all; done) | (cases hkv : kwB (s.extract w.i (w.i + n)) <;> simp_all <;> omega))
         simp only [maskL, setsL, putsO, putO, mB, List.set_cons_zero, List.set_cons_succ, seval]
         refine AWp_cond rfl (fun hb76 => ?_) (fun hb76 => ?_)
         ·
          have h76 := of_decide_eq_true hb76
          have hnx : nxF s w.i = (0, 0, 2) := by rw [nx_letter hsm hrun2, if_neg (by simp [h76.1]), if_pos h76.2]
          refine AWp_seqK fun Y1 y1 => ?_
          refine AWp_region ?_
          iterate 3 (refine aops_chunk 1 fun Q0 q0 => ?_; simp only [↓bO, go_sem, seval, Tok.cells, hw1, List.map_append, List.length_append, hi, hlt, hcn, hw4]; refine q0 _ ?_; clear q0 Q0; simp only [go_sem])
          simp only [↓bO, go_sem, seval, Tok.cells, hw1, List.map_append, List.length_append, hi, hlt, hcn, hw4]
          refine y1 _ ?_
          try clear y1 Y1
          refine AWp_ret ?_
          try simp only [thenQ, blockQ, noGotoQ, retQ, aRes, tupOf, bS, bA]
          rw [hw.bad hi hbl hc35 hnx (by decide)]
          exact Le.tup ⟨Le.slNil 4, .refl _, .refl _, trivial⟩
         ·
          have h76 := of_decide_eq_false hb76
          have hnx : nxF s w.i = (if kwB (s.extract w.i (w.i + n)) = true then 3 else 1, n, 0) := by
           rw [nx_letter hsm hrun2]
           cases hkv : kwB (s.extract w.i (w.i + n)) with
           | true => rfl
           | false => rw [if_neg (by simp), if_neg fun h => h76 ⟨hkv, h⟩]; rfl
          refine AWp_skip ?_
          try simp only [thenQ, blockQ, noGotoQ]
          try simp only [maskL, setsL, putsO, putO, mB, List.set_cons_zero, List.set_cons_succ, seval]
          refine ⟨((nxF s w.i).1, (nxF s w.i).2.1), (by rw [hnx]), ?_⟩
          simp only [hnx]
          exact Weak.mk (by simp only [go_sem, Le.refl, Le.any]) (fun _ _ h => h) rfl rfl
       ·
        simp only [List.set_cons_zero, List.set_cons_succ]
        have hge : ¬ w.i + n < s.size := by simpa using hc56
        have hrun2 : runN s w.i (inI) = n := runN_eq (by omega) (fun k hk => hnn.2.2 k hk) (fun hh => absurd hh hge)
        iterate 4 (refine aops_chunk 1 fun Q0 q0 => ?_; simp only [↓bO, go_sem, seval, Tok.cells, hw1, List.map_append, List.length_append, hi]; refine q0 _ ?_; clear q0 Q0; simp only [go_sem])
        simp only [↓bO, go_sem, seval, Tok.cells, hw1, List.map_append, List.length_append, hi]
        refine y3 _ ?_
        try clear y3 Y3
        refine AWp_cond (b := false) (by first | exact rfl | exact congrArg (fun b => AV.v (.bool b)) hb61) (fun h => (by cases h)) (fun _ => ?_)
        refine AWp_exit ?_
        simp only [thenQ, blockQ, noGotoQ, bA, Nat.reduceEqDiff, ↓reduceIte]
        refine y1 _ ?_
        try clear y1 Y1
        refine AWp_seqK fun Y1 y1 => ?_
        refine AWp_region ?_
        simp only [↓bO, go_sem, seval, Tok.cells, hw1, List.map_append, List.length_append, hi]
        refine y1 _ ?_
        try clear y1 Y1
        refine AWp_joinM (mB 181 865) ([(9, .v (.int .i64 (if kwB (s.extract w.i (w.i + n)) = true then 3 else 1)))]) ([]) ?_ ?_
        ·
         have hsl1 : ((w.i : Int) ≤ ((w.i + n : Nat) : Int)) = True := eq_true (by omega)
         have hsl2 : (((w.i + n : Nat) : Int) ≤ (s.size : Int)) = True := eq_true (by omega)
         refine AWp_seqK fun Y1 y1 => ?_
         refine AWp_region ?_
         iterate 4 (refine aops_chunk 1 fun Q0 q0 => ?_; simp only [↓bO, go_sem, seval, Tok.cells, hw1, List.map_append, List.length_append, hi, hsl1, hsl2]; refine q0 _ ?_; clear q0 Q0; simp only [go_sem])
         simp only [↓bO, go_sem, seval, Tok.cells, hw1, List.map_append, List.length_append, hi, hsl1, hsl2]
         refine APure.call (RKey_pure _) ?_
         try simp only [bS, bA, thenQ, blockQ, noGotoQ]
         refine y1 _ ?_
         try clear y1 Y1
         refine AWp_cond rfl (fun hb68 => ?_) (fun hb68 => ?_)
         ·
          have hkw : kwB (s.extract w.i (w.i + n)) = true := hb68
          refine AWp_region ?_
          simp only [↓bO, go_sem, seval, Tok.cells, hw1, List.map_append, List.length_append, hi, hsl1, hsl2]
          try simp only [maskL, setsL, putsO, putO, mB, List.set_cons_zero, List.set_cons_succ, seval]
          simp only [hkw, Bool.false_eq_true, if_true, if_false]
          exact Weak.mk (by simp only [go_sem, Le.refl, Le.any]) (fun _ _ h => h) rfl rfl
         ·
          have hkw : kwB (s.extract w.i (w.i + n)) = false := hb68
          refine AWp_skip ?_
          try simp only [thenQ, blockQ, noGotoQ]
          try simp only [maskL, setsL, putsO, putO, mB, List.set_cons_zero, List.set_cons_succ, seval]
          simp only [hkw, Bool.false_eq_true, if_true, if_false]
          exact Weak.mk (by simp only [go_sem, Le.refl, Le.any]) (fun _ _ h => h) rfl rfl
        simp only [maskL, setsL, putsO, putO, mB, List.set_cons_zero, List.set_cons_succ, seval]
        have hw4 : IntKind.i64.wrap (((w.i + n : Nat) : Int) - (w.i : Int)) = ((n : Nat) : Int) := by (rw [wrap_in (by omega) (by omega)]; omega)
        refine AWp_joinM (mB 181 75557863725914323420001) ([(76, .v (.bool (decide (kwB (s.extract w.i (w.i + n)) = false ∧ 20 < n))))]) ([]) ?_ ?_
        ·
         refine AWp_region ?_
         iterate 3 (refine aops_chunk 1 fun Q0 q0 => ?_; simp only [↓bO, go_sem, seval, Tok.cells, hw1, List.map_append, List.length_append, hi, hw4]; refine q0 _ ?_; clear q0 Q0; simp only [go_sem])
         refine aops_case 71 rfl (fun hc71 => ?_) (fun hc71 => ?_)
         ·
          simp only [List.set_cons_zero, List.set_cons_succ]
          iterate 4 (refine aops_chunk 1 fun Q0 q0 => ?_; simp only [↓bO, go_sem, seval, Tok.cells, hw1, List.map_append, List.length_append, hi, hw4]; refine q0 _ ?_; clear q0 Q0; simp only [go_sem])
          simp only [↓bO, go_sem, seval, Tok.cells, hw1, List.map_append, List.length_append, hi, hw4]
          try simp only [maskL, setsL, putsO, putO, mB, List.set_cons_zero, List.set_cons_succ, seval]
          refine Weak.mk ?_ (fun _ _ h => h) rfl rfl
          simp only [go_sem, Le.refl, Le.any]
          all_goals (refine Le.of_eq (congrArg (fun b => AV.v (.bool b)) ?_); first | (cases hkv : kwB (s.extract w.i (w.i + n)) <;> simp_all; done) | (cases hkv : kwB (s.extract w.i (w.i + n)) <;> simp_all <;> omega))
         ·
          simp only [List.set_cons_zero, List.set_cons_succ]
          iterate 4 (refine aops_chunk 1 fun Q0 q0 => ?_; simp only [↓bO, go_sem, seval, Tok.cells, hw1, List.map_append, List.length_append, hi, hw4]; refine q0 _ ?_; clear q0 Q0; simp only [go_sem])
          simp only [↓bO, go_sem, seval, Tok.cells, hw1, List.map_append, List.length_append, hi, hw4]
          try simp only [maskL, setsL, putsO, putO, mB, List.set_cons_zero, List.set_cons_succ, seval]
          refine Weak.mk ?_ (fun _ _ h => h) rfl rfl
          simp only [go_sem, Le.refl, Le.any]
          all_goals (refine Le.of_eq (congrArg (fun b => AV.v (.bool b)) ?_); first | (cases hkv : kwB (s.extract w.i (w.i + n)) <;> simp_all; done) | (cases hkv : kwB (s.extract w.i (w.i + n)) <;> simp_all <;> omega))
        simp only [maskL, setsL, putsO, putO, mB, List.set_cons_zero, List.set_cons_succ, seval]
        refine AWp_cond rfl (fun hb76 => ?_) (fun hb76 => ?_)
        ·
         have h76 := of_decide_eq_true hb76
         have hnx : nxF s w.i = (0, 0, 2) := by rw [nx_letter hsm hrun2, if_neg (by simp [h76.1]), if_pos h76.2]
         refine AWp_seqK fun Y1 y1 => ?_
         refine AWp_region ?_
         iterate 3 (refine aops_chunk 1 fun Q0 q0 => ?_; simp only [↓bO, go_sem, seval, Tok.cells, hw1, List.map_append, List.length_append, hi, hw4]; refine q0 _ ?_; clear q0 Q0; simp only [go_sem])
         simp only [↓bO, go_sem, seval, Tok.cells, hw1, List.map_append, List.length_append, hi, hw4]
         refine y1 _ ?_
         try clear y1 Y1
         refine AWp_ret ?_
         try simp only [thenQ, blockQ, noGotoQ, retQ, aRes, tupOf, bS, bA]
         rw [hw.bad hi hbl hc35 hnx (by decide)]
         exact Le.tup ⟨Le.slNil 4, .refl _, .refl _, trivial⟩
        ·
         have h76 := of_decide_eq_false hb76
         have hnx : nxF s w.i = (if kwB (s.extract w.i (w.i + n)) = true then 3 else 1, n, 0) := by
          rw [nx_letter hsm hrun2]
          cases hkv : kwB (s.extract w.i (w.i + n)) with
          | true => rfl
          | false => rw [if_neg (by simp), if_neg fun h => h76 ⟨hkv, h⟩]; rfl
         refine AWp_skip ?_
         try simp only [thenQ, blockQ, noGotoQ]
         try simp only [maskL, setsL, putsO, putO, mB, List.set_cons_zero, List.set_cons_succ, seval]
         refine ⟨((nxF s w.i).1, (nxF s w.i).2.1), (by rw [hnx]), ?_⟩
         simp only [hnx]
         exact Weak.mk (by simp only [go_sem, Le.refl, Le.any]) (fun _ _ h => h) rfl rfl
      ·
       have hsm : smI (bt s w.i) = false := hb49
       refine AWp_seqK fun Y1 y1 => ?_
       refine AWp_region ?_
       refine aops_chunk 1 fun Q0 q0 => ?_
       simp only [↓bO, go_sem, seval, Tok.cells, hw1, List.map_append, List.length_append, hi]
       refine q0 _ ?_
       clear q0 Q0
       simp only [go_sem]
       refine aops_chunk 1 fun Q0 q0 => ?_
       simp only [↓bO, go_sem, seval, Tok.cells, hw1, List.map_append, List.length_append, hi]
       refine APure.call (RDigit_pure _) ?_
       try simp only [bS, bA, thenQ, blockQ, noGotoQ]
       refine q0 _ ?_
       clear q0 Q0
       simp only [go_sem]
       simp only [↓bO, go_sem, seval, Tok.cells, hw1, List.map_append, List.length_append, hi]
       refine y1 _ ?_
       try clear y1 Y1
       refine AWp_cond rfl (fun hb78 => ?_) (fun hb78 => ?_)
       ·
        have hdg : dgI (bt s w.i) = true := hb78
        have hdg0 : dgI (bt s (w.i + 0)) = true := by (rw [Nat.add_zero]; exact hdg)
        refine AWp_seqK fun Y1 y1 => ?_
        refine AWp_block ?_
        refine AWp_loopM (σ := Nat) (mB 181 481) (fun n => 1 ≤ n ∧ w.i + n ≤ s.size ∧ ∀ k, k < n → (dgI) (bt s (w.i + k)) = true) (fun n => [(8, .v (.int .i64 ((w.i + n : Nat) : Int)))]) (fun n => []) (fun n => s.size - (w.i + n)) 1 (⟨by omega, by omega, fun k hk => by obtain rfl : k = 0 := (by omega); exact hdg0⟩) ?_ (fun n hnn => ?_)
        ·
         try simp only [maskL, setsL, putsO, putO, mB, List.set_cons_zero, List.set_cons_succ, seval, bL]
         exact Weak.mk (by simp only [go_sem, Le.refl, Le.any, Le.slNil, Int.natCast_add, Int.cast_ofNat_Int, Int.natCast_one]) (fun _ _ h => h) rfl rfl
        simp only [maskL, setsL, putsO, putO, mB, List.set_cons_zero, List.set_cons_succ, seval]
        have hwn : IntKind.i64.wrap (((w.i + n : Nat) : Int) + 1) = ((w.i + (n + 1) : Nat) : Int) := by (rw [wrap_in (by omega) (by omega)]; omega)
        refine AWp_seqK fun Y2 y2 => ?_
        refine AWp_seqK fun Y3 y3 => ?_
        refine AWp_region ?_
        iterate 5 (refine aops_chunk 1 fun Q0 q0 => ?_; simp only [↓bO, go_sem, seval, Tok.cells, hw1, List.map_append, List.length_append, hwn, hi]; refine q0 _ ?_; clear q0 Q0; simp only [go_sem])
        refine aops_case 85 rfl (fun hc85 => ?_) (fun hc85 => ?_)
        ·
         simp only [List.set_cons_zero, List.set_cons_succ]
         have hlt : w.i + n < s.size := by simpa using hc85
         have hcn : ((((s[w.i + n]?).getD 0).toNat : Nat) : Int) = bt s (w.i + n) := rfl
         iterate 3 (refine aops_chunk 1 fun Q0 q0 => ?_; simp only [↓bO, go_sem, seval, Tok.cells, hw1, List.map_append, List.length_append, hwn, hi, hlt, hcn]; refine q0 _ ?_; clear q0 Q0; simp only [go_sem])
         refine aops_chunk 1 fun Q0 q0 => ?_
         simp only [↓bO, go_sem, seval, Tok.cells, hw1, List.map_append, List.length_append, hwn, hi, hlt, hcn]
         refine APure.call (RDigit_pure _) ?_
         try simp only [bS, bA, thenQ, blockQ, noGotoQ]
         refine q0 _ ?_
         clear q0 Q0
         simp only [go_sem]
         simp only [↓bO, go_sem, seval, Tok.cells, hw1, List.map_append, List.length_append, hwn, hi, hlt, hcn]
         refine y3 _ ?_
         try clear y3 Y3
         refine AWp_cond rfl (fun hb90 => ?_) (fun hb90 => ?_)
         ·
          refine AWp_skip ?_
          try simp only [thenQ, blockQ, noGotoQ]
          refine y2 _ ?_
          try clear y2 Y2
          refine AWp_block ?_
          refine AWp_region ?_
          iterate 2 (refine aops_chunk 1 fun Q0 q0 => ?_; simp only [↓bO, go_sem, seval, Tok.cells, hw1, List.map_append, List.length_append, hwn, hi, hlt, hcn]; refine q0 _ ?_; clear q0 Q0; simp only [go_sem])
          simp only [↓bO, go_sem, seval, Tok.cells, hw1, List.map_append, List.length_append, hwn, hi, hlt, hcn]
          refine ⟨(n + 1), ⟨by omega, by omega, fun k hk9 => (by rcases Nat.lt_or_ge k n with h3 | h3 <;> first | exact hnn.2.2 k h3 | (obtain rfl : k = n := (by omega); exact hb90))⟩, by omega, ?_⟩
          try simp only [maskL, setsL, putsO, putO, mB, List.set_cons_zero, List.set_cons_succ, seval, hwn, hi, hlt, hcn]
          exact Weak.mk (by simp only [go_sem, Le.refl, Le.any, Le.slNil, Int.natCast_add, Int.cast_ofNat_Int, Int.natCast_one]) (fun _ _ h => h) rfl rfl
         ·
          have hrun3 : runN s w.i (dgI) = n := runN_eq (by omega) (fun k hk => hnn.2.2 k hk) (fun hh => by (show (dgI) (bt s (w.i + n)) = false; simpa using hb90))
          refine AWp_exit ?_
          simp only [thenQ, blockQ, noGotoQ, bA, Nat.reduceEqDiff, ↓reduceIte]
          refine y1 _ ?_
          try clear y1 Y1
          refine AWp_seqK fun Y1 y1 => ?_
          refine AWp_region ?_
          simp only [↓bO, go_sem, seval, Tok.cells, hw1, List.map_append, List.length_append, hi, hlt, hcn]
          refine y1 _ ?_
          try clear y1 Y1
          refine AWp_seqK fun Y1 y1 => ?_
          refine AWp_joinM (mB 181 5192296858534827628530496329220961) ([(112, .v (.bool (decide ((1 < n ∧ bt s w.i = 48) ∨ (w.i + n < s.size ∧ inI (bt s (w.i + n)) = true)))))]) ([]) ?_ ?_
          ·
           refine AWp_region ?_
           iterate 3 (refine aops_chunk 1 fun Q0 q0 => ?_; simp only [↓bO, go_sem, seval, Tok.cells, hw1, List.map_append, List.length_append, hi, hlt, hcn]; refine q0 _ ?_; clear q0 Q0; simp only [go_sem])
           refine aops_case 95 rfl (fun hc95 => ?_) (fun hc95 => ?_)
           ·
            simp only [List.set_cons_zero, List.set_cons_succ]
            iterate 6 (refine aops_chunk 1 fun Q0 q0 => ?_; simp only [↓bO, go_sem, seval, Tok.cells, hw1, List.map_append, List.length_append, hi, hlt, hcn]; refine q0 _ ?_; clear q0 Q0; simp only [go_sem])
            refine aops_case 101 rfl (fun hc101 => ?_) (fun hc101 => ?_)
            ·
             simp only [List.set_cons_zero, List.set_cons_succ]
             iterate 10 (refine aops_chunk 1 fun Q0 q0 => ?_; simp only [↓bO, go_sem, seval, Tok.cells, hw1, List.map_append, List.length_append, hi, hlt, hcn]; refine q0 _ ?_; clear q0 Q0; simp only [go_sem])
             simp only [↓bO, go_sem, seval, Tok.cells, hw1, List.map_append, List.length_append, hi, hlt, hcn]
             try simp only [maskL, setsL, putsO, putO, mB, List.set_cons_zero, List.set_cons_succ, seval]
             refine Weak.mk ?_ (fun _ _ h => h) rfl rfl
             simp only [go_sem, Le.refl, Le.any]
             all_goals (refine Le.of_eq (congrArg (fun b => AV.v (.bool b)) ?_); first | (simp_all; done) | (simp at *; omega))
            ·
             simp only [List.set_cons_zero, List.set_cons_succ]
             iterate 5 (refine aops_chunk 1 fun Q0 q0 => ?_; simp only [↓bO, go_sem, seval, Tok.cells, hw1, List.map_append, List.length_append, hi, hlt, hcn]; refine q0 _ ?_; clear q0 Q0; simp only [go_sem])
             refine aops_case 106 rfl (fun hc106 => ?_) (fun hc106 => ?_)
             ·
              simp only [List.set_cons_zero, List.set_cons_succ]
              have hlt5 : w.i + n < s.size := by first | (simpa using hc106) | exact hlt
              iterate 3 (refine aops_chunk 1 fun Q0 q0 => ?_; simp only [↓bO, go_sem, seval, Tok.cells, hw1, List.map_append, List.length_append, hi, hlt, hcn, hlt5]; refine q0 _ ?_; clear q0 Q0; simp only [go_sem])
              refine aops_chunk 1 fun Q0 q0 => ?_
              simp only [↓bO, go_sem, seval, Tok.cells, hw1, List.map_append, List.length_append, hi, hlt, hcn, hlt5]
              refine APure.call (RInner_pure _) ?_
              try simp only [bS, bA, thenQ, blockQ, noGotoQ]
              refine q0 _ ?_
              clear q0 Q0
              simp only [go_sem]
              refine aops_chunk 1 fun Q0 q0 => ?_
              simp only [↓bO, go_sem, seval, Tok.cells, hw1, List.map_append, List.length_append, hi, hlt, hcn, hlt5]
              refine q0 _ ?_
              clear q0 Q0
              simp only [go_sem]
              simp only [↓bO, go_sem, seval, Tok.cells, hw1, List.map_append, List.length_append, hi, hlt, hcn, hlt5]
              try simp only [maskL, setsL, putsO, putO, mB, List.set_cons_zero, List.set_cons_succ, seval]
              refine Weak.mk ?_ (fun _ _ h => h) rfl rfl
              simp only [go_sem, Le.refl, Le.any]
              all_goals (refine Le.of_eq (congrArg (fun b => AV.v (.bool b)) ?_); first | (simp_all; done) | (simp at *; omega))
             ·
              simp only [List.set_cons_zero, List.set_cons_succ]
              have hge5 : ¬ w.i + n < s.size := by first | (simpa using hc106) | (exact absurd hc106 (by simp))
              iterate 5 (refine aops_chunk 1 fun Q0 q0 => ?_; simp only [↓bO, go_sem, seval, Tok.cells, hw1, List.map_append, List.length_append, hi, hlt, hcn]; refine q0 _ ?_; clear q0 Q0; simp only [go_sem])
              simp only [↓bO, go_sem, seval, Tok.cells, hw1, List.map_append, List.length_append, hi, hlt, hcn]
              try simp only [maskL, setsL, putsO, putO, mB, List.set_cons_zero, List.set_cons_succ, seval]
              refine Weak.mk ?_ (fun _ _ h => h) rfl rfl
              simp only [go_sem, Le.refl, Le.any]
              all_goals (refine Le.of_eq (congrArg (fun b => AV.v (.bool b)) ?_); first | (simp_all; done) | (simp at *; omega))
           ·
            simp only [List.set_cons_zero, List.set_cons_succ]
            iterate 11 (refine aops_chunk 1 fun Q0 q0 => ?_; simp only [↓bO, go_sem, seval, Tok.cells, hw1, List.map_append, List.length_append, hi, hlt, hcn]; refine q0 _ ?_; clear q0 Q0; simp only [go_sem])
            refine aops_case 106 rfl (fun hc106 => ?_) (fun hc106 => ?_)
            ·
             simp only [List.set_cons_zero, List.set_cons_succ]
             have hlt5 : w.i + n < s.size := by first | (simpa using hc106) | exact hlt
             iterate 3 (refine aops_chunk 1 fun Q0 q0 => ?_; simp only [↓bO, go_sem, seval, Tok.cells, hw1, List.map_append, List.length_append, hi, hlt, hcn, hlt5]; refine q0 _ ?_; clear q0 Q0; simp only [go_sem])
             refine aops_chunk 1 fun Q0 q0 => ?_
             simp only [↓bO, go_sem, seval, Tok.cells, hw1, List.map_append, List.length_append, hi, hlt, hcn, hlt5]
             refine APure.call (RInner_pure _) ?_
             try simp only [bS, bA, thenQ, blockQ, noGotoQ]
             refine q0 _ ?_
             clear q0 Q0
             simp only [go_sem]
             refine aops_chunk 1 fun Q0 q0 => ?_
             simp only [↓bO, go_sem, seval, Tok.cells, hw1, List.map_append, List.length_append, hi, hlt, hcn, hlt5]
             refine q0 _ ?_
             clear q0 Q0
             simp only [go_sem]
             simp only [↓bO, go_sem, seval, Tok.cells, hw1, List.map_append, List.length_append, hi, hlt, hcn, hlt5]
             try simp only [maskL, setsL, putsO, putO, mB, List.set_cons_zero, List.set_cons_succ, seval]
             refine Weak.mk ?_ (fun _ _ h => h) rfl rfl
             simp only [go_sem, Le.refl, Le.any]
             all_goals (refine Le.of_eq (congrArg (fun b => AV.v (.bool b)) ?_); first | (simp_all; done) | (simp at *; omega))
            ·
             simp only [List.set_cons_zero, List.set_cons_succ]
             have hge5 : ¬ w.i + n < s.size := by first | (simpa using hc106) | (exact absurd hc106 (by simp))
             iterate 5 (refine aops_chunk 1 fun Q0 q0 => ?_; simp only [↓bO, go_sem, seval, Tok.cells, hw1, List.map_append, List.length_append, hi, hlt, hcn]; refine q0 _ ?_; clear q0 Q0; simp only [go_sem])
             simp only [↓bO, go_sem, seval, Tok.cells, hw1, List.map_append, List.length_append, hi, hlt, hcn]
             try simp only [maskL, setsL, putsO, putO, mB, List.set_cons_zero, List.set_cons_succ, seval]
             refine Weak.mk ?_ (fun _ _ h => h) rfl rfl
             simp only [go_sem, Le.refl, Le.any]
             all_goals (refine Le.of_eq (congrArg (fun b => AV.v (.bool b)) ?_); first | (simp_all; done) | (simp at *; omega))
          simp only [maskL, setsL, putsO, putO, mB, List.set_cons_zero, List.set_cons_succ, seval]
          refine AWp_cond rfl (fun hb112 => ?_) (fun hb112 => ?_)
          ·
           have h112 := of_decide_eq_true hb112
           have hnx : nxF s w.i = (0, 0, 3) := by rw [nx_digit hsm hdg hrun3, if_pos h112]
           refine AWp_seqK fun Y2 y2 => ?_
           refine AWp_region ?_
           iterate 3 (refine aops_chunk 1 fun Q0 q0 => ?_; simp only [↓bO, go_sem, seval, Tok.cells, hw1, List.map_append, List.length_append, hi, hlt, hcn]; refine q0 _ ?_; clear q0 Q0; simp only [go_sem])
           simp only [↓bO, go_sem, seval, Tok.cells, hw1, List.map_append, List.length_append, hi, hlt, hcn]
           refine y2 _ ?_
           try clear y2 Y2
           refine AWp_ret ?_
           try simp only [thenQ, blockQ, noGotoQ, retQ, aRes, tupOf, bS, bA]
           rw [hw.bad hi hbl hc35 hnx (by decide)]
           exact Le.tup ⟨Le.slNil 4, .refl _, .refl _, trivial⟩
          ·
           have h112 := of_decide_eq_false hb112
           refine AWp_skip ?_
           try simp only [thenQ, blockQ, noGotoQ]
           refine y1 _ ?_
           try clear y1 Y1
           have hw5 : IntKind.i64.wrap (((w.i + n : Nat) : Int) - (w.i : Int)) = ((n : Nat) : Int) := by (rw [wrap_in (by omega) (by omega)]; omega)
           refine AWp_seqK fun Y1 y1 => ?_
           refine AWp_region ?_
           iterate 3 (refine aops_chunk 1 fun Q0 q0 => ?_; simp only [↓bO, go_sem, seval, Tok.cells, hw1, List.map_append, List.length_append, hi, hlt, hcn, hw5]; refine q0 _ ?_; clear q0 Q0; simp only [go_sem])
           simp only [↓bO, go_sem, seval, Tok.cells, hw1, List.map_append, List.length_append, hi, hlt, hcn, hw5]
           refine y1 _ ?_
           try clear y1 Y1
           refine AWp_cond rfl (fun hb117 => ?_) (fun hb117 => ?_)
           ·
            have h117 : 9 < n := by (have h9 := hb117; simp at h9; omega)
            have hnx : nxF s w.i = (0, 0, 2) := by rw [nx_digit hsm hdg hrun3, if_neg h112, if_pos h117]
            refine AWp_seqK fun Y1 y1 => ?_
            refine AWp_region ?_
            iterate 3 (refine aops_chunk 1 fun Q0 q0 => ?_; simp only [↓bO, go_sem, seval, Tok.cells, hw1, List.map_append, List.length_append, hi, hlt, hcn, hw5]; refine q0 _ ?_; clear q0 Q0; simp only [go_sem])
            simp only [↓bO, go_sem, seval, Tok.cells, hw1, List.map_append, List.length_append, hi, hlt, hcn, hw5]
            refine y1 _ ?_
            try clear y1 Y1
            refine AWp_ret ?_
            try simp only [thenQ, blockQ, noGotoQ, retQ, aRes, tupOf, bS, bA]
            rw [hw.bad hi hbl hc35 hnx (by decide)]
            exact Le.tup ⟨Le.slNil 4, .refl _, .refl _, trivial⟩
           ·
            have h117 : ¬ 9 < n := by (have h9 := hb117; simp at h9; omega)
            have hnx : nxF s w.i = (2, n, 0) := by rw [nx_digit hsm hdg hrun3, if_neg h112, if_neg h117]
            refine AWp_skip ?_
            try simp only [thenQ, blockQ, noGotoQ]
            try simp only [maskL, setsL, putsO, putO, mB, List.set_cons_zero, List.set_cons_succ, seval]
            refine ⟨((nxF s w.i).1, (nxF s w.i).2.1), (by rw [hnx]), ?_⟩
            simp only [hnx]
            exact Weak.mk (by simp only [go_sem, Le.refl, Le.any]) (fun _ _ h => h) rfl rfl
        ·
         simp only [List.set_cons_zero, List.set_cons_succ]
         have hge : ¬ w.i + n < s.size := by simpa using hc85
         have hrun3 : runN s w.i (dgI) = n := runN_eq (by omega) (fun k hk => hnn.2.2 k hk) (fun hh => absurd hh hge)
         iterate 4 (refine aops_chunk 1 fun Q0 q0 => ?_; simp only [↓bO, go_sem, seval, Tok.cells, hw1, List.map_append, List.length_append, hi]; refine q0 _ ?_; clear q0 Q0; simp only [go_sem])
         simp only [↓bO, go_sem, seval, Tok.cells, hw1, List.map_append, List.length_append, hi]
         refine y3 _ ?_
         try clear y3 Y3
         refine AWp_cond (b := false) (by first | exact rfl | exact congrArg (fun b => AV.v (.bool b)) hb90) (fun h => (by cases h)) (fun _ => ?_)
         refine AWp_exit ?_
         simp only [thenQ, blockQ, noGotoQ, bA, Nat.reduceEqDiff, ↓reduceIte]
         refine y1 _ ?_
         try clear y1 Y1
         refine AWp_seqK fun Y1 y1 => ?_
         refine AWp_region ?_
         simp only [↓bO, go_sem, seval, Tok.cells, hw1, List.map_append, List.length_append, hi]
         refine y1 _ ?_
         try clear y1 Y1
         refine AWp_seqK fun Y1 y1 => ?_
         refine AWp_joinM (mB 181 5192296858534827628530496329220961) ([(112, .v (.bool (decide ((1 < n ∧ bt s w.i = 48) ∨ (w.i + n < s.size ∧ inI (bt s (w.i + n)) = true)))))]) ([]) ?_ ?_
         ·
          refine AWp_region ?_
          iterate 3 (refine aops_chunk 1 fun Q0 q0 => ?_; simp only [↓bO, go_sem, seval, Tok.cells, hw1, List.map_append, List.length_append, hi]; refine q0 _ ?_; clear q0 Q0; simp only [go_sem])
          refine aops_case 95 rfl (fun hc95 => ?_) (fun hc95 => ?_)
          ·
           simp only [List.set_cons_zero, List.set_cons_succ]
           iterate 6 (refine aops_chunk 1 fun Q0 q0 => ?_; simp only [↓bO, go_sem, seval, Tok.cells, hw1, List.map_append, List.length_append, hi]; refine q0 _ ?_; clear q0 Q0; simp only [go_sem])
           refine aops_case 101 rfl (fun hc101 => ?_) (fun hc101 => ?_)
           ·
            simp only [List.set_cons_zero, List.set_cons_succ]
            iterate 10 (refine aops_chunk 1 fun Q0 q0 => ?_; simp only [↓bO, go_sem, seval, Tok.cells, hw1, List.map_append, List.length_append, hi]; refine q0 _ ?_; clear q0 Q0; simp only [go_sem])
            simp only [↓bO, go_sem, seval, Tok.cells, hw1, List.map_append, List.length_append, hi]
            try simp only [maskL, setsL, putsO, putO, mB, List.set_cons_zero, List.set_cons_succ, seval]
            refine Weak.mk ?_ (fun _ _ h => h) rfl rfl
            simp only [go_sem, Le.refl, Le.any]
            all_goals (refine Le.of_eq (congrArg (fun b => AV.v (.bool b)) ?_); first | (simp_all; done) | (simp at *; omega))
           ·
            simp only [List.set_cons_zero, List.set_cons_succ]
            iterate 5 (refine aops_chunk 1 fun Q0 q0 => ?_; simp only [↓bO, go_sem, seval, Tok.cells, hw1, List.map_append, List.length_append, hi]; refine q0 _ ?_; clear q0 Q0; simp only [go_sem])
            refine aops_case 106 rfl (fun hc106 => ?_) (fun hc106 => ?_)
            ·
             simp only [List.set_cons_zero, List.set_cons_succ]
             have hlt5 : w.i + n < s.size := by first | (simpa using hc106) | exact hlt
             iterate 3 (refine aops_chunk 1 fun Q0 q0 => ?_; simp only [↓bO, go_sem, seval, Tok.cells, hw1, List.map_append, List.length_append, hi, hlt5]; refine q0 _ ?_; clear q0 Q0; simp only [go_sem])
             refine aops_chunk 1 fun Q0 q0 => ?_
             simp only [↓bO, go_sem, seval, Tok.cells, hw1, List.map_append, List.length_append, hi, hlt5]
             refine APure.call (RInner_pure _) ?_
             try simp only [bS, bA, thenQ, blockQ, noGotoQ]
             refine q0 _ ?_
             clear q0 Q0
             simp only [go_sem]
             refine aops_chunk 1 fun Q0 q0 => ?_
             simp only [↓bO, go_sem, seval, Tok.cells, hw1, List.map_append, List.length_append, hi, hlt5]
             refine q0 _ ?_
             clear q0 Q0
             simp only [go_sem]
             simp only [↓bO, go_sem, seval, Tok.cells, hw1, List.map_append, List.length_append, hi, hlt5]
             try simp only [maskL, setsL, putsO, putO, mB, List.set_cons_zero, List.set_cons_succ, seval]
             refine Weak.mk ?_ (fun _ _ h => h) rfl rfl
             simp only [go_sem, Le.refl, Le.any]
             all_goals (refine Le.of_eq (congrArg (fun b => AV.v (.bool b)) ?_); first | (simp_all; done) | (simp at *; omega))
            ·
             simp only [List.set_cons_zero, List.set_cons_succ]
             have hge5 : ¬ w.i + n < s.size := by first | (simpa using hc106) | (exact absurd hc106 (by simp))
             iterate 5 (refine aops_chunk 1 fun Q0 q0 => ?_; simp only [↓bO, go_sem, seval, Tok.cells, hw1, List.map_append, List.length_append, hi]; refine q0 _ ?_; clear q0 Q0; simp only [go_sem])
             simp only [↓bO, go_sem, seval, Tok.cells, hw1, List.map_append, List.length_append, hi]
             try simp only [maskL, setsL, putsO, putO, mB, List.set_cons_zero, List.set_cons_succ, seval]
             refine Weak.mk ?_ (fun _ _ h => h) rfl rfl
             simp only [go_sem, Le.refl, Le.any]
             all_goals (refine Le.of_eq (congrArg (fun b => AV.v (.bool b)) ?_); first | (simp_all; done) | (simp at *; omega))
          ·
           simp only [List.set_cons_zero, List.set_cons_succ]
           iterate 11 (refine aops_chunk 1 fun Q0 q0 => ?_; simp only [↓bO, go_sem, seval, Tok.cells, hw1, List.map_append, List.length_append, hi]; refine q0 _ ?_; clear q0 Q0; simp only [go_sem])
           refine aops_case 106 rfl (fun hc106 => ?_) (fun hc106 => ?_)
           ·
            simp only [List.set_cons_zero, List.set_cons_succ]
            have hlt5 : w.i + n < s.size := by first | (simpa using hc106) | exact hlt
            iterate 3 (refine aops_chunk 1 fun Q0 q0 => ?_; simp only [↓bO, go_sem, seval, Tok.cells, hw1, List.map_append, List.length_append, hi, hlt5]; refine q0 _ ?_; clear q0 Q0; simp only [go_sem])
            refine aops_chunk 1 fun Q0 q0 => ?_
            simp only [↓bO, go_sem, seval, Tok.cells, hw1, List.map_append, List.length_append, hi, hlt5]
            refine APure.call (RInner_pure _) ?_
            try simp only [bS, bA, thenQ, blockQ, noGotoQ]
            refine q0 _ ?_
            clear q0 Q0
            simp only [go_sem]
            refine aops_chunk 1 fun Q0 q0 => ?_
            simp only [↓bO, go_sem, seval, Tok.cells, hw1, List.map_append, List.length_append, hi, hlt5]
            refine q0 _ ?_
            clear q0 Q0
            simp only [go_sem]
            simp only [↓bO, go_sem, seval, Tok.cells, hw1, List.map_append, List.length_append, hi, hlt5]
            try simp only [maskL, setsL, putsO, putO, mB, List.set_cons_zero, List.set_cons_succ, seval]
            refine Weak.mk ?_ (fun _ _ h => h) rfl rfl
            simp only [go_sem, Le.refl, Le.any]
            all_goals (refine Le.of_eq (congrArg (fun b => AV.v (.bool b)) ?_); first | (simp_all; done) | (simp at *; omega))
           ·
            simp only [List.set_cons_zero, List.set_cons_succ]
            have hge5 : ¬ w.i + n < s.size := by first | (simpa using hc106) | (exact absurd hc106 (by simp))
            iterate 5 (refine aops_chunk 1 fun Q0 q0 => ?_; simp only [↓bO, go_sem, seval, Tok.cells, hw1, List.map_append, List.length_append, hi]; refine q0 _ ?_; clear q0 Q0; simp only [go_sem])
            simp only [↓bO, go_sem, seval, Tok.cells, hw1, List.map_append, List.length_append, hi]
            try simp only [maskL, setsL, putsO, putO, mB, List.set_cons_zero, List.set_cons_succ, seval]
            refine Weak.mk ?_ (fun _ _ h => h) rfl rfl
            simp only [go_sem, Le.refl, Le.any]
            all_goals (refine Le.of_eq (congrArg (fun b => AV.v (.bool b)) ?_); first | (simp_all; done) | (simp at *; omega))
         simp only [maskL, setsL, putsO, putO, mB, List.set_cons_zero, List.set_cons_succ, seval]
         refine AWp_cond rfl (fun hb112 => ?_) (fun hb112 => ?_)
         ·
          have h112 := of_decide_eq_true hb112
          have hnx : nxF s w.i = (0, 0, 3) := by rw [nx_digit hsm hdg hrun3, if_pos h112]
          refine AWp_seqK fun Y2 y2 => ?_
          refine AWp_region ?_
          iterate 3 (refine aops_chunk 1 fun Q0 q0 => ?_; simp only [↓bO, go_sem, seval, Tok.cells, hw1, List.map_append, List.length_append, hi]; refine q0 _ ?_; clear q0 Q0; simp only [go_sem])
          simp only [↓bO, go_sem, seval, Tok.cells, hw1, List.map_append, List.length_append, hi]
          refine y2 _ ?_
          try clear y2 Y2
          refine AWp_ret ?_
          try simp only [thenQ, blockQ, noGotoQ, retQ, aRes, tupOf, bS, bA]
          rw [hw.bad hi hbl hc35 hnx (by decide)]
          exact Le.tup ⟨Le.slNil 4, .refl _, .refl _, trivial⟩
         ·
          have h112 := of_decide_eq_false hb112
          refine AWp_skip ?_
          try simp only [thenQ, blockQ, noGotoQ]
          refine y1 _ ?_
          try clear y1 Y1
          have hw5 : IntKind.i64.wrap (((w.i + n : Nat) : Int) - (w.i : Int)) = ((n : Nat) : Int) := by (rw [wrap_in (by omega) (by omega)]; omega)
          refine AWp_seqK fun Y1 y1 => ?_
          refine AWp_region ?_
          iterate 3 (refine aops_chunk 1 fun Q0 q0 => ?_; simp only [↓bO, go_sem, seval, Tok.cells, hw1, List.map_append, List.length_append, hi, hw5]; refine q0 _ ?_; clear q0 Q0; simp only [go_sem])
          simp only [↓bO, go_sem, seval, Tok.cells, hw1, List.map_append, List.length_append, hi, hw5]
          refine y1 _ ?_
          try clear y1 Y1
          refine AWp_cond rfl (fun hb117 => ?_) (fun hb117 => ?_)
          ·
           have h117 : 9 < n := by (have h9 := hb117; simp at h9; omega)
           have hnx : nxF s w.i = (0, 0, 2) := by rw [nx_digit hsm hdg hrun3, if_neg h112, if_pos h117]
           refine AWp_seqK fun Y1 y1 => ?_
           refine AWp_region ?_
           iterate 3 (refine aops_chunk 1 fun Q0 q0 => ?_; simp only [↓bO, go_sem, seval, Tok.cells, hw1, List.map_append, List.length_append, hi, hw5]; refine q0 _ ?_; clear q0 Q0; simp only [go_sem])
           simp only [↓bO, go_sem, seval, Tok.cells, hw1, List.map_append, List.length_append, hi, hw5]
           refine y1 _ ?_
           try clear y1 Y1
           refine AWp_ret ?_
           try simp only [thenQ, blockQ, noGotoQ, retQ, aRes, tupOf, bS, bA]
           rw [hw.bad hi hbl hc35 hnx (by decide)]
           exact Le.tup ⟨Le.slNil 4, .refl _, .refl _, trivial⟩
          ·
           have h117 : ¬ 9 < n := by (have h9 := hb117; simp at h9; omega)
           have hnx : nxF s w.i = (2, n, 0) := by rw [nx_digit hsm hdg hrun3, if_neg h112, if_neg h117]
           refine AWp_skip ?_
           try simp only [thenQ, blockQ, noGotoQ]
           try simp only [maskL, setsL, putsO, putO, mB, List.set_cons_zero, List.set_cons_succ, seval]
           refine ⟨((nxF s w.i).1, (nxF s w.i).2.1), (by rw [hnx]), ?_⟩
           simp only [hnx]
           exact Weak.mk (by simp only [go_sem, Le.refl, Le.any]) (fun _ _ h => h) rfl rfl
       ·
        have hdg : dgI (bt s w.i) = false := hb78
        refine AWp_seqK fun Y1 y1 => ?_
        refine AWp_region ?_
        iterate 2 (refine aops_chunk 1 fun Q0 q0 => ?_; simp only [↓bO, go_sem, seval, Tok.cells, hw1, List.map_append, List.length_append, hi]; refine q0 _ ?_; clear q0 Q0; simp only [go_sem])
        simp only [↓bO, go_sem, seval, Tok.cells, hw1, List.map_append, List.length_append, hi]
        refine y1 _ ?_
        try clear y1 Y1
        refine AWp_cond rfl (fun hb119 => ?_) (fun hb119 => ?_)
        ·
         have h45 : bt s w.i = 45 := by simpa using hb119
         refine AWp_seqK fun Y1 y1 => ?_
         refine AWp_joinM (mB 181 2722258935367507707706996859454145692513) ([(131, .v (.bool (!decide (w.i + 1 < s.size ∧ bt s (w.i + 1) = 62))))]) ([]) ?_ ?_
         ·
          refine AWp_region ?_
          iterate 5 (refine aops_chunk 1 fun Q0 q0 => ?_; simp only [↓bO, go_sem, seval, Tok.cells, hw1, List.map_append, List.length_append, hi]; refine q0 _ ?_; clear q0 Q0; simp only [go_sem])
          refine aops_case 126 rfl (fun hc126 => ?_) (fun hc126 => ?_)
          ·
           simp only [List.set_cons_zero, List.set_cons_succ]
           have hge6 : ¬ w.i + 1 < s.size := by (have h9 := hc126; simp at h9; omega)
           iterate 4 (refine aops_chunk 1 fun Q0 q0 => ?_; simp only [↓bO, go_sem, seval, Tok.cells, hw1, List.map_append, List.length_append, hi]; refine q0 _ ?_; clear q0 Q0; simp only [go_sem])
           simp only [↓bO, go_sem, seval, Tok.cells, hw1, List.map_append, List.length_append, hi]
           try simp only [maskL, setsL, putsO, putO, mB, List.set_cons_zero, List.set_cons_succ, seval]
           refine Weak.mk ?_ (fun _ _ h => h) rfl rfl
           simp only [go_sem, Le.refl, Le.any]
           all_goals (refine Le.of_eq (congrArg (fun b => AV.v (.bool b)) ?_); first | (rw [show decide (w.i + 1 < s.size ∧ bt s (w.i + 1) = 62) = false from decide_eq_false fun h => hge6 h.1]; rfl) | (show (bt s (w.i + 1) != 62) = _; rw [Bool.eq_iff_iff]; simp [hlt6]; done))
          ·
           simp only [List.set_cons_zero, List.set_cons_succ]
           have hlt6 : w.i + 1 < s.size := by (have h9 := hc126; simp at h9; omega)
           iterate 4 (refine aops_chunk 1 fun Q0 q0 => ?_; simp only [↓bO, go_sem, seval, Tok.cells, hw1, List.map_append, List.length_append, hi, hlt6]; refine q0 _ ?_; clear q0 Q0; simp only [go_sem])
           simp only [↓bO, go_sem, seval, Tok.cells, hw1, List.map_append, List.length_append, hi, hlt6]
           try simp only [maskL, setsL, putsO, putO, mB, List.set_cons_zero, List.set_cons_succ, seval]
           refine Weak.mk ?_ (fun _ _ h => h) rfl rfl
           simp only [go_sem, Le.refl, Le.any]
           all_goals (refine Le.of_eq (congrArg (fun b => AV.v (.bool b)) ?_); first | (rw [show decide (w.i + 1 < s.size ∧ bt s (w.i + 1) = 62) = false from decide_eq_false fun h => hge6 h.1]; rfl) | (show (bt s (w.i + 1) != 62) = _; rw [Bool.eq_iff_iff]; simp [hlt6]; done))
         simp only [maskL, setsL, putsO, putO, mB, List.set_cons_zero, List.set_cons_succ, seval]
         refine AWp_cond rfl (fun hb131 => ?_) (fun hb131 => ?_)
         ·
          have h131 : ¬ (w.i + 1 < s.size ∧ bt s (w.i + 1) = 62) := fun h => by (have h9 := hb131; rw [decide_eq_true h] at h9; cases h9)
          have hnx : nxF s w.i = (0, 0, 3) := by rw [nx_arrow h45, if_neg h131]
          refine AWp_seqK fun Y2 y2 => ?_
          refine AWp_region ?_
          iterate 3 (refine aops_chunk 1 fun Q0 q0 => ?_; simp only [↓bO, go_sem, seval, Tok.cells, hw1, List.map_append, List.length_append, hi]; refine q0 _ ?_; clear q0 Q0; simp only [go_sem])
          simp only [↓bO, go_sem, seval, Tok.cells, hw1, List.map_append, List.length_append, hi]
          refine y2 _ ?_
          try clear y2 Y2
          refine AWp_ret ?_
          try simp only [thenQ, blockQ, noGotoQ, retQ, aRes, tupOf, bS, bA]
          rw [hw.bad hi hbl hc35 hnx (by decide)]
          exact Le.tup ⟨Le.slNil 4, .refl _, .refl _, trivial⟩
         ·
          have h131 : w.i + 1 < s.size ∧ bt s (w.i + 1) = 62 := by (have h9 := hb131; simpa using h9)
          have hnx : nxF s w.i = (4, 2, 0) := by rw [nx_arrow h45, if_pos h131]
          have hw7 : IntKind.i64.wrap (((w.i + 1 : Nat) : Int) + 1) = ((w.i + 2 : Nat) : Int) := by (rw [wrap_in (by omega) (by omega)]; omega)
          refine AWp_skip ?_
          try simp only [thenQ, blockQ, noGotoQ]
          refine y1 _ ?_
          try clear y1 Y1
          refine AWp_region ?_
          iterate 2 (refine aops_chunk 1 fun Q0 q0 => ?_; simp only [↓bO, go_sem, seval, Tok.cells, hw1, List.map_append, List.length_append, hi, hw7]; refine q0 _ ?_; clear q0 Q0; simp only [go_sem])
          simp only [↓bO, go_sem, seval, Tok.cells, hw1, List.map_append, List.length_append, hi, hw7]
          try simp only [maskL, setsL, putsO, putO, mB, List.set_cons_zero, List.set_cons_succ, seval]
          refine ⟨((nxF s w.i).1, (nxF s w.i).2.1), (by rw [hnx]), ?_⟩
          simp only [hnx]
          exact Weak.mk (by simp only [go_sem, Le.refl, Le.any]) (fun _ _ h => h) rfl rfl
        ·
         have h45 : ¬ bt s w.i = 45 := by simpa using hb119
         refine AWp_joinM (mB 181 43556142965880123323311949751266331067233) ([(135, .v (.bool (!isSg (bt s w.i))))]) ([]) ?_ ?_
         ·
          refine AWp_region ?_
          iterate 3 (refine aops_chunk 1 fun Q0 q0 => ?_; simp only [↓bO, go_sem, seval, Tok.cells, hw1, List.map_append, List.length_append, hi]; refine q0 _ ?_; clear q0 Q0; simp only [go_sem])
          refine aops_case 138 rfl (fun hc138 => ?_) (fun hc138 => ?_)
          ·
           simp only [List.set_cons_zero, List.set_cons_succ]
           iterate 4 (refine aops_chunk 1 fun Q0 q0 => ?_; simp only [↓bO, go_sem, seval, Tok.cells, hw1, List.map_append, List.length_append, hi]; refine q0 _ ?_; clear q0 Q0; simp only [go_sem])
           refine aops_case 142 rfl (fun hc142 => ?_) (fun hc142 => ?_)
           ·
            simp only [List.set_cons_zero, List.set_cons_succ]
            iterate 4 (refine aops_chunk 1 fun Q0 q0 => ?_; simp only [↓bO, go_sem, seval, Tok.cells, hw1, List.map_append, List.length_append, hi]; refine q0 _ ?_; clear q0 Q0; simp only [go_sem])
            refine aops_case 146 rfl (fun hc146 => ?_) (fun hc146 => ?_)
            ·
             simp only [List.set_cons_zero, List.set_cons_succ]
             iterate 4 (refine aops_chunk 1 fun Q0 q0 => ?_; simp only [↓bO, go_sem, seval, Tok.cells, hw1, List.map_append, List.length_append, hi]; refine q0 _ ?_; clear q0 Q0; simp only [go_sem])
             refine aops_case 150 rfl (fun hc150 => ?_) (fun hc150 => ?_)
             ·
              simp only [List.set_cons_zero, List.set_cons_succ]
              iterate 4 (refine aops_chunk 1 fun Q0 q0 => ?_; simp only [↓bO, go_sem, seval, Tok.cells, hw1, List.map_append, List.length_append, hi]; refine q0 _ ?_; clear q0 Q0; simp only [go_sem])
              refine aops_case 154 rfl (fun hc154 => ?_) (fun hc154 => ?_)
              ·
               simp only [List.set_cons_zero, List.set_cons_succ]
               iterate 3 (refine aops_chunk 1 fun Q0 q0 => ?_; simp only [↓bO, go_sem, seval, Tok.cells, hw1, List.map_append, List.length_append, hi]; refine q0 _ ?_; clear q0 Q0; simp only [go_sem])
               simp only [↓bO, go_sem, seval, Tok.cells, hw1, List.map_append, List.length_append, hi]
               try simp only [maskL, setsL, putsO, putO, mB, List.set_cons_zero, List.set_cons_succ, seval]
               refine Weak.mk ?_ (fun _ _ h => h) rfl rfl
               simp only [go_sem, Le.refl, Le.any]
               all_goals (refine Le.of_eq (congrArg (fun b => AV.v (.bool b)) ?_); first | (simp_all [isSg]; done) | (rw [Bool.eq_iff_iff]; simp [isSg] at *; omega))
              ·
               simp only [List.set_cons_zero, List.set_cons_succ]
               iterate 3 (refine aops_chunk 1 fun Q0 q0 => ?_; simp only [↓bO, go_sem, seval, Tok.cells, hw1, List.map_append, List.length_append, hi]; refine q0 _ ?_; clear q0 Q0; simp only [go_sem])
               simp only [↓bO, go_sem, seval, Tok.cells, hw1, List.map_append, List.length_append, hi]
               try simp only [maskL, setsL, putsO, putO, mB, List.set_cons_zero, List.set_cons_succ, seval]
               refine Weak.mk ?_ (fun _ _ h => h) rfl rfl
               simp only [go_sem, Le.refl, Le.any]
               all_goals (refine Le.of_eq (congrArg (fun b => AV.v (.bool b)) ?_); first | (simp_all [isSg]; done) | (rw [Bool.eq_iff_iff]; simp [isSg] at *; omega))
             ·
              simp only [List.set_cons_zero, List.set_cons_succ]
              iterate 7 (refine aops_chunk 1 fun Q0 q0 => ?_; simp only [↓bO, go_sem, seval, Tok.cells, hw1, List.map_append, List.length_append, hi]; refine q0 _ ?_; clear q0 Q0; simp only [go_sem])
              simp only [↓bO, go_sem, seval, Tok.cells, hw1, List.map_append, List.length_append, hi]
              try simp only [maskL, setsL, putsO, putO, mB, List.set_cons_zero, List.set_cons_succ, seval]
              refine Weak.mk ?_ (fun _ _ h => h) rfl rfl
              simp only [go_sem, Le.refl, Le.any]
              all_goals (refine Le.of_eq (congrArg (fun b => AV.v (.bool b)) ?_); first | (simp_all [isSg]; done) | (rw [Bool.eq_iff_iff]; simp [isSg] at *; omega))
            ·
             simp only [List.set_cons_zero, List.set_cons_succ]
             iterate 11 (refine aops_chunk 1 fun Q0 q0 => ?_; simp only [↓bO, go_sem, seval, Tok.cells, hw1, List.map_append, List.length_append, hi]; refine q0 _ ?_; clear q0 Q0; simp only [go_sem])
             simp only [↓bO, go_sem, seval, Tok.cells, hw1, List.map_append, List.length_append, hi]
             try simp only [maskL, setsL, putsO, putO, mB, List.set_cons_zero, List.set_cons_succ, seval]
             refine Weak.mk ?_ (fun _ _ h => h) rfl rfl
             simp only [go_sem, Le.refl, Le.any]
             all_goals (refine Le.of_eq (congrArg (fun b => AV.v (.bool b)) ?_); first | (simp_all [isSg]; done) | (rw [Bool.eq_iff_iff]; simp [isSg] at *; omega))
           ·
            simp only [List.set_cons_zero, List.set_cons_succ]
            iterate 15 (refine aops_chunk 1 fun Q0 q0 => ?_; simp only [↓bO, go_sem, seval, Tok.cells, hw1, List.map_append, List.length_append, hi]; refine q0 _ ?_; clear q0 Q0; simp only [go_sem])
            simp only [↓bO, go_sem, seval, Tok.cells, hw1, List.map_append, List.length_append, hi]
            try simp only [maskL, setsL, putsO, putO, mB, List.set_cons_zero, List.set_cons_succ, seval]
            refine Weak.mk ?_ (fun _ _ h => h) rfl rfl
            simp only [go_sem, Le.refl, Le.any]
            all_goals (refine Le.of_eq (congrArg (fun b => AV.v (.bool b)) ?_); first | (simp_all [isSg]; done) | (rw [Bool.eq_iff_iff]; simp [isSg] at *; omega))
          ·
           simp only [List.set_cons_zero, List.set_cons_succ]
           iterate 19 (refine aops_chunk 1 fun Q0 q0 => ?_; simp only [↓bO, go_sem, seval, Tok.cells, hw1, List.map_append, List.length_append, hi]; refine q0 _ ?_; clear q0 Q0; simp only [go_sem])
           simp only [↓bO, go_sem, seval, Tok.cells, hw1, List.map_append, List.length_append, hi]
           try simp only [maskL, setsL, putsO, putO, mB, List.set_cons_zero, List.set_cons_succ, seval]
           refine Weak.mk ?_ (fun _ _ h => h) rfl rfl
           simp only [go_sem, Le.refl, Le.any]
           all_goals (refine Le.of_eq (congrArg (fun b => AV.v (.bool b)) ?_); first | (simp_all [isSg]; done) | (rw [Bool.eq_iff_iff]; simp [isSg] at *; omega))
         simp only [maskL, setsL, putsO, putO, mB, List.set_cons_zero, List.set_cons_succ, seval]
         refine AWp_cond rfl (fun hb135 => ?_) (fun hb135 => ?_)
         ·
          have h135 : isSg (bt s w.i) = false := by (have h9 := hb135; simpa using h9)
          have hnx : nxF s w.i = (0, 0, 3) := by rw [nx_sign hsm hdg h45, if_neg (by simp [h135])]
          refine AWp_seqK fun Y1 y1 => ?_
          refine AWp_region ?_
          iterate 3 (refine aops_chunk 1 fun Q0 q0 => ?_; simp only [↓bO, go_sem, seval, Tok.cells, hw1, List.map_append, List.length_append, hi]; refine q0 _ ?_; clear q0 Q0; simp only [go_sem])
          simp only [↓bO, go_sem, seval, Tok.cells, hw1, List.map_append, List.length_append, hi]
          refine y1 _ ?_
          try clear y1 Y1
          refine AWp_ret ?_
          try simp only [thenQ, blockQ, noGotoQ, retQ, aRes, tupOf, bS, bA]
          rw [hw.bad hi hbl hc35 hnx (by decide)]
          exact Le.tup ⟨Le.slNil 4, .refl _, .refl _, trivial⟩
         ·
          have h135 : isSg (bt s w.i) = true := by (have h9 := hb135; simpa using h9)
          have hnx : nxF s w.i = (4, 1, 0) := by rw [nx_sign hsm hdg h45, if_pos h135]
          refine AWp_skip ?_
          try simp only [thenQ, blockQ, noGotoQ]
          try simp only [maskL, setsL, putsO, putO, mB, List.set_cons_zero, List.set_cons_succ, seval]
          refine ⟨((nxF s w.i).1, (nxF s w.i).2.1), (by rw [hnx]), ?_⟩
          simp only [hnx]
          exact Weak.mk (by simp only [go_sem, Le.refl, Le.any]) (fun _ _ h => h) rfl rfl
     simp only [maskL, setsL, putsO, putO, mB, List.set_cons_zero, List.set_cons_succ, seval]
     have htk := hw.tok hi hbl hc35 hj
     have hsl3 : ((w.i : Int) ≤ ((w.i + j.2 : Nat) : Int)) = True := eq_true (by omega)
     have hsl4 : (((w.i + j.2 : Nat) : Int) ≤ (s.size : Int)) = True := eq_true (by omega)
     have hb1 : (w.out.length + 1) * 40 ≤ 140737488355328 := by omega
     have hb2 : w.out.length + 1 ≤ maxLen := by (simp only [maxLen]; omega)
     refine AWp_seqK fun Y1 y1 => ?_
     refine AWp_region ?_
     iterate 10 (refine aops_chunk 1 fun Q0 q0 => ?_; simp only [↓bO, go_sem, seval, Tok.cells, hw1, List.map_append, List.length_append, hi, hsl3, hsl4, hb1, hb2]; refine q0 _ ?_; clear q0 Q0; simp only [go_sem])
     refine aops_chunk 1 fun Q0 q0 => ?_
     simp only [↓bO, go_sem, seval, ↓bs1_1, ↓bs1_2, ↓bs1_3, ↓bs1_4, ↓bs1_5, ↓bs1_6, ↓bs1_7, ↓bs1_8, ↓bs1_9, ↓bs1_10, ↓bs1_11, ↓bs1_12, Tok.cells, hw1, List.map_append, List.length_append, hi, hsl3, hsl4, hb1, hb2]
     refine q0 _ ?_
     clear q0 Q0
     simp only [go_sem]
     refine aops_chunk 1 fun Q0 q0 => ?_
     simp only [↓bO, go_sem, seval, Tok.cells, hw1, List.map_append, List.length_append, hi, hsl3, hsl4, hb1, hb2]
     refine q0 _ ?_
     clear q0 Q0
     simp only [go_sem]
     simp only [↓bO, go_sem, seval, Tok.cells, hw1, List.map_append, List.length_append, hi, hsl3, hsl4, hb1, hb2]
     refine y1 _ ?_
     try clear y1 Y1
     refine AWp_region ?_
     refine aops_chunk 1 fun Q0 q0 => ?_
     simp only [↓bO, go_sem, seval, Tok.cells, hw1, List.map_append, List.length_append, hi, hsl3, hsl4, hb1, hb2]
     refine q0 _ ?_
     clear q0 Q0
     simp only [go_sem]
     simp only [↓bO, go_sem, seval, Tok.cells, hw1, List.map_append, List.length_append, hi, hsl3, hsl4, hb1, hb2]
     refine ⟨⟨w.f - 1, w.i + j.2, w.out ++ [⟨j.1, s.extract w.i (w.i + j.2), w.i, ((w.i + j.2 : Nat) : Int)⟩]⟩, htk.1, (by first | (simp only; omega) | (have h9 := htk.2; simp only; omega) | (have h9 := runN_pos (p := fun c => c != 10) hi (by rw [hc35]; decide); simp only; omega)), ?_⟩
     try simp only [maskL, setsL, putsO, putO, mB, List.set_cons_zero, List.set_cons_succ, seval, Tok.cells, hw1, List.map_append, bL, List.length_append, hi, hsl3, hsl4, hb1, hb2]
     exact Weak.mk (by simp only [go_sem, Le.refl, Le.any, Le.slNil, Int.natCast_add, Int.cast_ofNat_Int, Int.natCast_one]) (fun _ _ h => h) rfl rfl
  ·
   have hi : ¬ w.i < s.size := by simpa using hb13
   refine AWp_exit ?_
   simp only [thenQ, blockQ, noGotoQ, bA, Nat.reduceEqDiff, ↓reduceIte]
   refine y0 _ ?_
   try clear y0 Y0
   have hb1 : (w.out.length + 1) * 40 ≤ 140737488355328 := by omega
   have hb2 : w.out.length + 1 ≤ maxLen := by (simp only [maxLen]; omega)
   refine AWp_seqK fun Y0 y0 => ?_
   refine AWp_region ?_
   iterate 7 (refine aops_chunk 1 fun Q0 q0 => ?_; simp only [↓bO, go_sem, seval, Tok.cells, hb1, hb2]; refine q0 _ ?_; clear q0 Q0; simp only [go_sem])
   refine aops_chunk 1 fun Q0 q0 => ?_
   simp only [↓bO, go_sem, seval, ↓bs1_1, ↓bs1_2, ↓bs1_3, ↓bs1_4, ↓bs1_5, ↓bs1_6, ↓bs1_7, ↓bs1_8, ↓bs1_9, ↓bs1_10, ↓bs1_11, ↓bs1_12, Tok.cells, hb1, hb2]
   iterate 3 (refine q0 _ ?_; clear q0 Q0; simp only [go_sem]; refine aops_chunk 1 fun Q0 q0 => ?_; simp only [↓bO, go_sem, seval, Tok.cells, hb1, hb2])
   refine q0 _ ?_
   clear q0 Q0
   simp only [go_sem]
   simp only [↓bO, go_sem, seval, Tok.cells, hb1, hb2]
   refine y0 _ ?_
   try clear y0 Y0
   refine AWp_ret ?_
   try simp only [thenQ, blockQ, noGotoQ, retQ, aRes, tupOf, bS, bA]
   rw [hw.stop hi]
   exact Le.tup ⟨by simp only [List.map_append, List.map_cons, List.map_nil]; exact Le.osl _ _ _, .refl _, .refl _, trivial⟩
def sOra : Ora := fun f args =>
  if f = 55 then match args with
    | [.v (.string s)] => some (.v (.bool (kwB s)))
    | _ => none
  else if f = 58 then match args with
    | [.v (.string s), .v (.int .u8 c)] => some (.v (.int .i64 (Lib.indexByte s.data.toList c.toNat.toUInt8)))
    | _ => none
  else if f = 59 then match args with
    | [.v (.string s), .v (.string p)] => some (.v (.bool (Lib.hasPrefix s.data.toList p.data.toList)))
    | _ => none
  else if f = 43 then match args with
    | [.sl 1 xs, .v (.string sep)] => match strsOf xs with
      | some l => if l.length ≤ 1000 ∧ (joinB l sep).size ≤ 1000000 then some (.v (.string (joinB l sep))) else none
      | none => none
    | _ => none
  else none
theorem sOra_ok : sOra.Ok Tryd.prog := by
  intro f args x h
  unfold sOra at h
  split at h
  · rename_i e; subst e
    split at h
    · cases h; exact Keyword_pure _
    · cases h
  split at h
  · rename_i e; subst e
    split at h
    · cases h; exact IndexByte_pure _ _
    · cases h
  split at h
  · rename_i e; subst e
    split at h
    · cases h; exact HasPrefix_pure _ _
    · cases h
  split at h
  · rename_i e; subst e
    split at h
    · split at h
      · rename_i l hl
        split at h
        · rename_i hc
          cases h
          rw [strsOf_spec hl]
          exact Join_pure l _ (by omega) (by omega)
        · cases h
      · cases h
    · cases h
  · cases h
def aw4S : ByteArray := ⟨#[40, 105, 110, 116, 32, 42, 32, 98, 111, 111, 108, 41, 32, 45, 62, 32, 105, 110, 116]⟩
def aw4T : List Tok := [⟨4, ⟨#[40]⟩, 0, 1⟩, ⟨3, ⟨#[105, 110, 116]⟩, 1, 4⟩, ⟨4, ⟨#[42]⟩, 5, 6⟩, ⟨3, ⟨#[98, 111, 111, 108]⟩, 7, 11⟩, ⟨4, ⟨#[41]⟩, 11, 12⟩, ⟨4, ⟨#[45, 62]⟩, 13, 15⟩, ⟨3, ⟨#[105, 110, 116]⟩, 16, 19⟩, ⟨0, ByteArray.empty, 19, 19⟩]
def aw4Y : Ty := .mk 4 0 [.mk 5 0 [.mk 2 0 [], .mk 3 0 []], .mk 2 0 []]
theorem aw4_words : APure Tryd.prog 19 [.v (.string aw4S)] (.tup [.sl 4 (aw4T.map Tok.cells), .v (.int .i64 0), .v (.int .i64 0)]) := ePureO_sound mixed sOra_ok (pol := []) (fuel := 60) (n := 30) (by kernel_rfl)
theorem aw4_print : APure Tryd.prog 16 [.agg [.v (.int .i64 4), .v (.int .i64 0), .sl 3 [[.v (.int .i64 5), .v (.int .i64 0), .sl 3 [[.v (.int .i64 2), .v (.int .i64 0), .sl 3 []], [.v (.int .i64 3), .v (.int .i64 0), .sl 3 []]]], [.v (.int .i64 2), .v (.int .i64 0), .sl 3 []]]]] (.v (.string aw4S)) := ePureO_sound mixed sOra_ok (pol := []) (fuel := 60) (n := 30) (by kernel_rfl)
theorem aw4_cells : aw4Y.cells = [.v (.int .i64 4), .v (.int .i64 0), .sl 3 [[.v (.int .i64 5), .v (.int .i64 0), .sl 3 [[.v (.int .i64 2), .v (.int .i64 0), .sl 3 []], [.v (.int .i64 3), .v (.int .i64 0), .sl 3 []]]], [.v (.int .i64 2), .v (.int .i64 0), .sl 3 []]]] := by simp [aw4Y, Ty.cells_eq, Ty.k, Ty.n, Ty.ps]
theorem isT_no {l : List Tok} {i k : Int} {s : ByteArray} {t : Tok} (h0 : 0 ≤ i) (ht : l[i.toNat]? = some t) (h : ¬ t.k = k) : isT l i k s = false := by
  rw [isT_at h0 ht]; simp [h]
theorem isT_yes {l : List Tok} {i k : Int} {s : ByteArray} {t : Tok} (h0 : 0 ≤ i) (ht : l[i.toNat]? = some t) (h : t.k = k) : isT l i k s = eqS t.s s := by
  rw [isT_at h0 ht, eqS_dec]; simp [h]
end Go.Proofs.YtnlonnnhofagaaaDoor
namespace Go.Proofs.YtnlonnnhofagaaaDoor
open Go Go.RowKit
set_option linter.unusedSimpArgs false
set_option linter.unusedVariables false
set_option linter.unnecessarySimpa false
def rdP (l : List Tok) (most : Int) : Nat → Option (List Ty) → Int → Int → Ty × Int × Int
  | 0, _, i, _ => (zTy, i, 3)
  | f + 1, none, i, lv =>
    if most < lv then (zTy, i, 4) else
    let r := if isT l i 3 bInt then (.mk 2 0 [], i + 1, 0) else if isT l i 3 bBool then (.mk 3 0 [], i + 1, 0)
      else if isT l i 4 bOpen then
        let p := rdP l most f none (i + 1) (lv + 1)
        if p.2.2 = 0 then rdP l most f (some [p.1]) p.2.1 (lv + 1) else p
      else (zTy, i, 3)
    if r.2.2 = 0 then
      if isT l r.2.1 4 bArrow then
        let u := rdP l most f none (r.2.1 + 1) (lv + 1)
        (.mk 4 0 [r.1, u.1], u.2.1, u.2.2)
      else r
    else r
  | f + 1, some ps, i, lv =>
    if isT l i 4 bClose then (tupP ps, i + 1, 0)
    else if isT l i 4 bStar then
      if ps.length = 8 then (tupP ps, i, 6) else
      let p := rdP l most f none (i + 1) lv
      if p.2.2 = 0 then rdP l most f (some (ps ++ [p.1])) p.2.1 lv else (tupP (ps ++ [p.1]), p.2.1, p.2.2)
    else (tupP ps, i, 3)
def lsP (l : List Tok) (m : Int) (f : Nat) (i lv : Int) : Ty × Int × Int :=
  if (rdP l m f none i lv).2.2 = 0 then rdP l m f (some [(rdP l m f none i lv).1]) (rdP l m f none i lv).2.1 lv else rdP l m f none i lv
def bsP (l : List Tok) (m : Int) (f : Nat) (i lv : Int) : Ty × Int × Int :=
  if isT l i 3 bInt then (.mk 2 0 [], i + 1, 0) else if isT l i 3 bBool then (.mk 3 0 [], i + 1, 0)
  else if isT l i 4 bOpen then lsP l m f (i + 1) (lv + 1) else (zTy, i, 3)
def arP (l : List Tok) (m : Int) (f : Nat) (lv : Int) (r : Ty × Int × Int) : Ty × Int × Int :=
  if r.2.2 = 0 then
    if isT l r.2.1 4 bArrow then (.mk 4 0 [r.1, (rdP l m f none (r.2.1 + 1) (lv + 1)).1], (rdP l m f none (r.2.1 + 1) (lv + 1)).2.1, (rdP l m f none (r.2.1 + 1) (lv + 1)).2.2)
    else r
  else r
theorem rdP_none (l : List Tok) (m : Int) (f : Nat) (i lv : Int) : rdP l m (f + 1) none i lv = if m < lv then (zTy, i, 4) else arP l m f lv (bsP l m f i lv) := rfl
theorem rdP_some (l : List Tok) (m : Int) (f : Nat) (ps : List Ty) (i lv : Int) : rdP l m (f + 1) (some ps) i lv =
    if isT l i 4 bClose then (tupP ps, i + 1, 0)
    else if isT l i 4 bStar then
      if ps.length = 8 then (tupP ps, i, 6) else
      if (rdP l m f none (i + 1) lv).2.2 = 0 then rdP l m f (some (ps ++ [(rdP l m f none (i + 1) lv).1])) (rdP l m f none (i + 1) lv).2.1 lv
      else (tupP (ps ++ [(rdP l m f none (i + 1) lv).1]), (rdP l m f none (i + 1) lv).2.1, (rdP l m f none (i + 1) lv).2.2)
    else (tupP ps, i, 3) := rfl
def lsR (l : List Tok) (m : Int) (f : Nat) (i lv : Int) : Ty × Int × Int :=
  if (rd l m f none i lv).2.2 = 0 then rd l m f (some [(rd l m f none i lv).1]) (rd l m f none i lv).2.1 lv else (zTy, (rd l m f none i lv).2.1, (rd l m f none i lv).2.2)
def bsR (l : List Tok) (m : Int) (f : Nat) (i lv : Int) : Ty × Int × Int :=
  if isT l i 3 bInt then (.mk 2 0 [], i + 1, 0) else if isT l i 3 bBool then (.mk 3 0 [], i + 1, 0)
  else if isT l i 4 bOpen then lsR l m f (i + 1) (lv + 1) else (zTy, i, 3)
def arR (l : List Tok) (m : Int) (f : Nat) (lv : Int) (r : Ty × Int × Int) : Ty × Int × Int :=
  if r.2.2 = 0 then
    if isT l r.2.1 4 bArrow then
      if (rd l m f none (r.2.1 + 1) (lv + 1)).2.2 = 0 then (.mk 4 0 [r.1, (rd l m f none (r.2.1 + 1) (lv + 1)).1], (rd l m f none (r.2.1 + 1) (lv + 1)).2.1, 0)
      else (zTy, (rd l m f none (r.2.1 + 1) (lv + 1)).2.1, (rd l m f none (r.2.1 + 1) (lv + 1)).2.2)
    else r
  else (zTy, r.2.1, r.2.2)
theorem rd_none (l : List Tok) (m : Int) (f : Nat) (i lv : Int) : rd l m (f + 1) none i lv = if m < lv then (zTy, i, 4) else arR l m f lv (bsR l m f i lv) := rfl
theorem rd_some (l : List Tok) (m : Int) (f : Nat) (ps : List Ty) (i lv : Int) : rd l m (f + 1) (some ps) i lv =
    if isT l i 4 bClose then (tupP ps, i + 1, 0)
    else if isT l i 4 bStar then
      if 8 ≤ ps.length then (zTy, i, 6) else
      if (rd l m f none (i + 1) lv).2.2 = 0 then rd l m f (some (ps ++ [(rd l m f none (i + 1) lv).1])) (rd l m f none (i + 1) lv).2.1 lv
      else (zTy, (rd l m f none (i + 1) lv).2.1, (rd l m f none (i + 1) lv).2.2)
    else (zTy, i, 3) := rfl
def Agree (r q : Ty × Int × Int) : Prop := r.2 = q.2 ∧ (q.2.2 = 0 → r = q)
theorem Agree.refl (r : Ty × Int × Int) : Agree r r := ⟨rfl, fun _ => rfl⟩
theorem rdP_rd (l : List Tok) (m : Int) : ∀ (f : Nat) (o : Option (List Ty)) (i lv : Int), (∀ ps, o = some ps → ps.length ≤ 8) → Agree (rdP l m f o i lv) (rd l m f o i lv)
  | 0, _, i, _, _ => Agree.refl _
  | f + 1, none, i, lv, _ => by
    have ih := rdP_rd l m f
    have hn := fun i lv => ih none i lv (fun ps h => by cases h)
    rw [rdP_none, rd_none]
    split
    · exact Agree.refl _
    have hls : ∀ i lv, Agree (lsP l m f i lv) (lsR l m f i lv) := fun i lv => by
      have h1 := hn i lv
      unfold lsP lsR
      by_cases h0 : (rd l m f none i lv).2.2 = 0
      · rw [h1.2 h0, if_pos h0, if_pos h0]
        exact ih _ _ _ fun ps h => by cases h; simp
      · rw [if_neg h0, if_neg (by rw [h1.1]; exact h0)]
        exact ⟨by rw [h1.1], fun h => absurd h h0⟩
    have hbs : Agree (bsP l m f i lv) (bsR l m f i lv) := by
      unfold bsP bsR
      split
      · exact Agree.refl _
      split
      · exact Agree.refl _
      split
      · exact hls _ _
      · exact Agree.refl _
    unfold arP arR
    by_cases h0 : (bsR l m f i lv).2.2 = 0
    · rw [hbs.2 h0, if_pos h0, if_pos h0]
      split
      · have h1 := hn ((bsR l m f i lv).2.1 + 1) (lv + 1)
        by_cases h2 : (rd l m f none ((bsR l m f i lv).2.1 + 1) (lv + 1)).2.2 = 0
        · rw [h1.2 h2, if_pos h2, h2]; exact Agree.refl _
        · rw [if_neg h2]
          exact ⟨by rw [h1.1], fun h => absurd h h2⟩
      · exact Agree.refl _
    · rw [if_neg h0, if_neg (by rw [hbs.1]; exact h0)]
      exact ⟨by rw [hbs.1], fun h => absurd h h0⟩
  | f + 1, some ps, i, lv, hps => by
    have ih := rdP_rd l m f
    have hn := fun i lv => ih none i lv (fun ps h => by cases h)
    have h8 := hps ps rfl
    rw [rdP_some, rd_some]
    split
    · exact Agree.refl _
    split
    · by_cases h : ps.length = 8
      · rw [if_pos h, if_pos (show 8 ≤ ps.length by omega)]
        exact ⟨rfl, fun h => by simp at h⟩
      · rw [if_neg h, if_neg (show ¬ 8 ≤ ps.length by omega)]
        have h1 := hn (i + 1) lv
        by_cases h2 : (rd l m f none (i + 1) lv).2.2 = 0
        · rw [h1.2 h2, if_pos h2, if_pos h2]
          exact ih _ _ _ fun qs h => by cases h; simp; omega
        · rw [if_neg h2, if_neg (by rw [h1.1]; exact h2)]
          exact ⟨by rw [h1.1], fun h => absurd h h2⟩
    · exact ⟨rfl, fun h => by simp at h⟩
theorem rdP_pos (l : List Tok) (m : Int) (f : Nat) (i lv : Int) : (rdP l m f none i lv).2 = (rd l m f none i lv).2 := (rdP_rd l m f none i lv (fun ps h => by cases h)).1
theorem rdP_mono (l : List Tok) (m : Int) (f : Nat) (i lv : Int) : i ≤ (rdP l m f none i lv).2.1 := by rw [rdP_pos]; exact (rd_mono l m f none i lv).1
def lft (l : List Tok) (i : Int) : Nat := ((l.length : Int) - max i 0).toNat
theorem lft_len (l : List Tok) (i : Int) : lft l i ≤ l.length := by unfold lft; omega
theorem lft_next {l : List Tok} {i k : Int} {s : ByteArray} (h : isT l i k s = true) : lft l (i + 1) < lft l i := by
  have := isT_lt h
  unfold lft; omega
theorem lft_le {l : List Tok} {i j : Int} (h : i ≤ j) : lft l j ≤ lft l i := by unfold lft; omega
theorem lsP_mono (l : List Tok) (m : Int) (f : Nat) (i lv : Int) : i ≤ (lsP l m f i lv).2.1 := by
  have h1 := rdP_mono l m f i lv
  unfold lsP
  split
  · have h2 := (rdP_rd l m f (some [(rdP l m f none i lv).1]) (rdP l m f none i lv).2.1 lv (fun ps h => by cases h; simp)).1
    have h3 := (rd_mono l m f (some [(rdP l m f none i lv).1]) (rdP l m f none i lv).2.1 lv).1
    rw [h2]; omega
  · exact h1
theorem bsP_mono (l : List Tok) (m : Int) (f : Nat) (i lv : Int) : i ≤ (bsP l m f i lv).2.1 := by
  unfold bsP
  split
  · simp only; omega
  split
  · simp only; omega
  split
  · have := lsP_mono l m f (i + 1) (lv + 1); omega
  · simp
theorem deep_e {m lv e0 : Int} (h : (if decide (lv > m) = true ∧ (0 : Int) = 0 then (4 : Int) else 0) = e0) : (m < lv ∧ e0 = 4) ∨ (¬ m < lv ∧ e0 = 0) := by
  by_cases hd : m < lv
  · rw [if_pos ⟨by simpa using hd, rfl⟩] at h
    exact .inl ⟨hd, h.symm⟩
  · rw [if_neg (by simpa using hd)] at h
    exact .inr ⟨hd, h.symm⟩
structure LS where
  f : Nat
  ps : List Ty
  i : Int
  e : Int
def LS.ok (l : List Tok) (m : Int) (f0 : Nat) (lv i0 : Int) (RES : Ty × Int × Int) (s : LS) : Prop :=
  0 < s.ps.length ∧ s.ps.length ≤ 8 ∧ i0 ≤ s.i ∧ s.f ≤ f0 ∧ (if s.e = 0 then rdP l m s.f (some s.ps) s.i lv = RES ∧ lft l s.i < s.f else RES = (tupP s.ps, s.i, s.e))
theorem tupP_one {ps : List Ty} (h : ps.length = 1) : ∃ t, ps = [t] ∧ tupP ps = t := by
  match ps, h with
  | [t], _ => exact ⟨t, rfl, rfl⟩
theorem tupP_more {ps : List Ty} (h : ¬ ps.length = 1) : tupP ps = .mk 5 0 ps := by
  match ps, h with
  | [], _ => rfl
  | _ :: _ :: _, _ => rfl
section
variable {l : List Tok} {m : Int} {f0 : Nat} {lv i0 : Int} {RES : Ty × Int × Int} {s : LS} {g : Nat}
theorem LS.start (l : List Tok) (m : Int) (f : Nat) (i lv : Int) (h : lft l i < f) :
    LS.ok l m f lv i (lsP l m f i lv) ⟨f, [(rdP l m f none i lv).1], (rdP l m f none i lv).2.1, (rdP l m f none i lv).2.2⟩ := by
  refine ⟨by simp, by simp, rdP_mono _ _ _ _ _, Nat.le_refl _, ?_⟩
  simp only [lsP]
  split
  · exact ⟨rfl, Nat.lt_of_le_of_lt (lft_le (rdP_mono _ _ _ _ _)) h⟩
  · rfl
theorem LS.ok.fuel (h : LS.ok l m f0 lv i0 RES s) (he : s.e = 0) : ∃ g, s.f = g + 1 ∧ g < f0 ∧ lft l s.i < g + 1 := by
  obtain ⟨_, _, _, h4, h5⟩ := h
  rw [if_pos he] at h5
  exact ⟨s.f - 1, by omega, by omega, by omega⟩
theorem LS.ok.res (h : LS.ok l m f0 lv i0 RES s) (he : s.e = 0) (hg : s.f = g + 1) : rdP l m (g + 1) (some s.ps) s.i lv = RES := by
  have h5 := h.2.2.2.2
  rw [if_pos he, hg] at h5
  exact h5.1
theorem LS.ok.stop (h : LS.ok l m f0 lv i0 RES s) (he : ¬ s.e = 0) : RES = (tupP s.ps, s.i, s.e) := by
  have h5 := h.2.2.2.2
  rwa [if_neg he] at h5
theorem LS.ok.close (h : LS.ok l m f0 lv i0 RES s) (he : s.e = 0) (hg : s.f = g + 1) (h1 : isT l s.i 4 bClose = true) : RES = (tupP s.ps, s.i + 1, 0) := by
  rw [← h.res he hg, rdP_some, if_pos h1]
theorem LS.ok.form (h : LS.ok l m f0 lv i0 RES s) (he : s.e = 0) (hg : s.f = g + 1) (h1 : isT l s.i 4 bClose = false) (h2 : isT l s.i 4 bStar = false) : LS.ok l m f0 lv i0 RES ⟨s.f, s.ps, s.i, 3⟩ := by
  refine ⟨h.1, h.2.1, h.2.2.1, h.2.2.2.1, ?_⟩
  simp only
  rw [if_neg (by decide), ← h.res he hg, rdP_some, if_neg (by simp [h1]), if_neg (by simp [h2])]
theorem LS.ok.many (h : LS.ok l m f0 lv i0 RES s) (he : s.e = 0) (hg : s.f = g + 1) (h1 : isT l s.i 4 bClose = false) (h2 : isT l s.i 4 bStar = true) (h3 : s.ps.length = 8) : LS.ok l m f0 lv i0 RES ⟨s.f, s.ps, s.i, 6⟩ := by
  refine ⟨h.1, h.2.1, h.2.2.1, h.2.2.2.1, ?_⟩
  simp only
  rw [if_neg (by decide), ← h.res he hg, rdP_some, if_neg (by simp [h1]), if_pos h2, if_pos h3]
theorem LS.ok.next (h : LS.ok l m f0 lv i0 RES s) (he : s.e = 0) (hg : s.f = g + 1) (h1 : isT l s.i 4 bClose = false) (h2 : isT l s.i 4 bStar = true) (h3 : ¬ s.ps.length = 8) :
    LS.ok l m f0 lv i0 RES ⟨g, s.ps ++ [(rdP l m g none (s.i + 1) lv).1], (rdP l m g none (s.i + 1) lv).2.1, (rdP l m g none (s.i + 1) lv).2.2⟩ := by
  have hr := h.res he hg
  rw [rdP_some, if_neg (by simp [h1]), if_pos h2, if_neg h3] at hr
  have hm := rdP_mono l m g (s.i + 1) lv
  obtain ⟨g', hg', _, hl⟩ := h.fuel he
  have hn := lft_next h2
  have hl2 := lft_le (l := l) hm
  refine ⟨by simp, ?_, ?_, ?_, ?_⟩
  · have := h.2.1; simp; omega
  · have := h.2.2.1; simp only; omega
  · have := h.2.2.2.1; simp only; omega
  · simp only
    split
    · rename_i h0
      rw [if_pos h0] at hr
      exact ⟨hr, by omega⟩
    · rename_i h0
      rw [if_neg h0] at hr
      exact hr.symm
end
structure RS where
  f : Nat
  ps : List Ty
  i : Int
  p : Ty
def RS.ok (l : List Tok) (m : Int) (f0 : Nat) (lv i0 : Int) (RES : Ty × Int × Int) (s : RS) : Prop :=
  0 < s.ps.length ∧ i0 ≤ s.i ∧ s.f ≤ f0 ∧ rd l m s.f (some s.ps) s.i lv = RES ∧ lft l s.i < s.f
section
variable {l : List Tok} {m : Int} {f0 : Nat} {lv i0 : Int} {RES : Ty × Int × Int} {s : RS} {g : Nat}
end
end Go.Proofs.YtnlonnnhofagaaaDoor
namespace Go.Proofs.YtnlonnnhofagaaaDoor
open Go Go.RowKit
set_option maxRecDepth 100000
set_option maxHeartbeats 4000000
set_option linter.unusedSimpArgs false
set_option linter.unusedVariables false
set_option linter.unnecessarySimpa false
attribute [local irreducible] aops dRun
def rC (l : List Tok) (m i e : Int) : List AV := [.sl 4 (l.map Tok.cells), .v (.int .i64 i), .v (.int .i64 m), .v (.int .i64 e)]
def RCalls (f : Nat) (args : List AV) (l : List Tok) (m i e : Int) (R : AV) (j d : Int) : Prop :=
  ACalls Tryd.prog f args [(0, .cells 56 (rC l m i e))] 1 fun r os n => (r = R ∧ os = [(0, .cells 56 (rC l m j d))]) ∧ n = 1
theorem RCalls.at {f : Nat} {args args' : List AV} {l : List Tok} {m i e : Int} {R : AV} {j d : Int} (h : RCalls f args l m i e R j d) {k : Nat} {os' : Os} {nx' : Nat} (hargs : RenL (renOf [k] nx') args args') (hR : Data R)
    (hk : getO os' k = some (.cells 56 (rC l m i e))) (lk : k < nx') {Q' : AV → Os → Nat → Prop} (hq : Q' R (putO os' k (.cells 56 (rC l m j d))) nx') : ACalls Tryd.prog f args' os' nx' Q' := by
  have ren : ∀ i e, RenOs (renOf [k] nx') 0 [.cells 56 (rC l m i e)] [.cells 56 (rC l m i e)] := fun i e => ⟨.cells ⟨.data (Tok.dataSl l), .v _, .v _, .v _, trivial⟩, trivial⟩
  refine ACalls.at (args := args) (obs := [.cells 56 (rC l m i e)]) (obs1 := [.cells 56 (rC l m j d)]) (obs' := [.cells 56 (rC l m i e)]) (obs1' := [.cells 56 (rC l m j d)]) [k] ?_ rfl rfl (by simp) (by simpa using lk) hargs (.data hR) (ren i e) ⟨hk, trivial⟩ (ren j d) hq
  exact h.mono fun r os n ⟨⟨h1, h2⟩, h3⟩ => ⟨h1, h2, h3⟩
theorem rUnd {n : Nat} (h : 1 ≤ n) (l : List Tok) (m i e : Int) : UndOs n [(0, .cells 56 (rC l m i e))] := ⟨by omega, ⟨.data (Tok.dataSl l), .v _ _, .v _ _, .v _ _, trivial⟩, trivial⟩
theorem fail_c (l : List Tok) (m i e : Int) (b : Bool) (c : Int) : RCalls 35 [.ptr 0 0, .v (.bool b), .v (.int .i64 c)] l m (i) (e) (.tup []) (i) (if b = true ∧ e = 0 then c else e) := by
  refine ACalls.clean (C := fun r os' => r = _ ∧ os' = _) ?_
  refine ACalls_intro Tryd.func35 (by kernel_rfl) rfl (by rw [Tryd.ntmps35]; simp) (fun hm => ?_)
  simp only [Tryd.ntmps35, Tryd.results35, List.length_cons, List.length_nil, Nat.reduceAdd, Nat.reduceSub, List.replicate_succ, List.replicate_zero, List.cons_append, List.nil_append]
  refine AWp_seqK fun Y0 y0 => ?_
  refine AWp_region ?_
  iterate 2 (refine aops_chunk 1 fun Q0 q0 => ?_; simp only [↓bO, go_sem, seval, Tok.cells, rC]; refine q0 _ ?_; clear q0 Q0; simp only [go_sem])
  refine aops_case 7 rfl (fun hc7 => ?_) (fun hc7 => ?_)
  ·
   simp only [List.set_cons_zero, List.set_cons_succ]
   have h7 : b = true := by simpa using hc7
   iterate 5 (refine aops_chunk 1 fun Q0 q0 => ?_; simp only [↓bO, go_sem, seval, Tok.cells, rC]; refine q0 _ ?_; clear q0 Q0; simp only [go_sem])
   simp only [↓bO, go_sem, seval, Tok.cells, rC]
   refine y0 _ ?_
   try clear y0 Y0
   refine AWp_cond rfl (fun hb13 => ?_) (fun hb13 => ?_)
   ·
    have h13 : e = 0 := by simpa using hb13
    refine AWp_region ?_
    iterate 4 (refine aops_chunk 1 fun Q0 q0 => ?_; simp only [↓bO, go_sem, seval, Tok.cells, rC]; refine q0 _ ?_; clear q0 Q0; simp only [go_sem])
    simp only [↓bO, go_sem, seval, Tok.cells, rC]
    try simp only [thenQ, blockQ, noGotoQ, retQ, aRes, tupOf, bS, bA]
    rw [if_pos ⟨h7, h13⟩]
    refine ⟨_, _, ⟨rfl, rfl⟩, .data (.tup .nil), rUnd (by omega) _ _ _ _, ?_, ?_, by omega⟩
    · exact Le.refl _
    · first | exact ⟨0, rfl, rfl⟩ | exact ⟨1, rfl, rfl⟩ | exact ⟨2, rfl, rfl⟩ | exact ⟨3, rfl, rfl⟩
   ·
    have h13 : ¬ e = 0 := by simpa using hb13
    refine AWp_skip ?_
    try simp only [thenQ, blockQ, noGotoQ]
    try simp only [thenQ, blockQ, noGotoQ, retQ, aRes, tupOf, bS, bA]
    rw [if_neg fun h => h13 h.2]
    refine ⟨_, _, ⟨rfl, rfl⟩, .data (.tup .nil), rUnd (by omega) _ _ _ _, ?_, ?_, by omega⟩
    · exact Le.refl _
    · first | exact ⟨0, rfl, rfl⟩ | exact ⟨1, rfl, rfl⟩ | exact ⟨2, rfl, rfl⟩ | exact ⟨3, rfl, rfl⟩
  ·
   simp only [List.set_cons_zero, List.set_cons_succ]
   have h7 : ¬ b = true := by simpa using hc7
   iterate 5 (refine aops_chunk 1 fun Q0 q0 => ?_; simp only [↓bO, go_sem, seval, Tok.cells, rC]; refine q0 _ ?_; clear q0 Q0; simp only [go_sem])
   simp only [↓bO, go_sem, seval, Tok.cells, rC]
   refine y0 _ ?_
   try clear y0 Y0
   refine AWp_cond (b := false) (by first | exact rfl | exact congrArg (fun b => AV.v (.bool b)) hb13) (fun h => (by cases h)) (fun _ => ?_)
   refine AWp_skip ?_
   try simp only [thenQ, blockQ, noGotoQ]
   try simp only [thenQ, blockQ, noGotoQ, retQ, aRes, tupOf, bS, bA]
   rw [if_neg fun h => h7 h.1]
   refine ⟨_, _, ⟨rfl, rfl⟩, .data (.tup .nil), rUnd (by omega) _ _ _ _, ?_, ?_, by omega⟩
   · exact Le.refl _
   · first | exact ⟨0, rfl, rfl⟩ | exact ⟨1, rfl, rfl⟩ | exact ⟨2, rfl, rfl⟩ | exact ⟨3, rfl, rfl⟩
theorem sign_c (l : List Tok) (m i e : Int) (k : Int) (s : ByteArray) (hl : l.length ≤ 1048576) : RCalls 36 [.ptr 0 0, .v (.int .i64 k), .v (.string s)] l m (i) (e) (.v (.bool (isT l i k s))) (if isT l i k s = true then i + 1 else i) (e) := by
  refine ACalls.clean (C := fun r os' => r = _ ∧ os' = _) ?_
  refine ACalls_intro Tryd.func36 (by kernel_rfl) rfl (by rw [Tryd.ntmps36]; simp) (fun hm => ?_)
  simp only [Tryd.ntmps36, Tryd.results36, List.length_cons, List.length_nil, Nat.reduceAdd, Nat.reduceSub, List.replicate_succ, List.replicate_zero, List.cons_append, List.nil_append]
  refine AWp_seqK fun Y0 y0 => ?_
  refine AWp_region ?_
  simp only [↓bO, go_sem, seval, Tok.cells, rC]
  refine y0 _ ?_
  try clear y0 Y0
  refine AWp_seqK fun Y0 y0 => ?_
  refine AWp_drawK 47 mixed (by kernel_rfl) fun J0 j0 => ?_
  iterate 6 (simp only [go_sem]; refine dRun_chunk 1 fun Q0 q0 => ?_; simp only [↓dRun, ↓dOp, ↓bO, go_sem, seval, Tok.cells, rC]; refine q0 _ ?_; clear q0 Q0)
  simp only [go_sem]
  refine dRun_case 13 rfl (fun hc13 => ?_) (fun hc13 => ?_)
  ·
   simp only [List.set_cons_zero, List.set_cons_succ]
   have h0 : 0 ≤ i := by simpa using hc13
   iterate 12 (refine dRun_chunk 1 fun Q0 q0 => ?_; simp only [↓dRun, ↓dOp, ↓bO, go_sem, seval, Tok.cells, rC, h0]; refine q0 _ ?_; clear q0 Q0; simp only [go_sem])
   refine dRun_case 25 rfl (fun hc25 => ?_) (fun hc25 => ?_)
   ·
    simp only [List.set_cons_zero, List.set_cons_succ]
    have h1 : i < (l.length : Int) := by simpa using hc25
    obtain ⟨n, rfl⟩ : ∃ n : Nat, i = (n : Int) := ⟨i.toNat, by omega⟩
    have hn : n < l.length := by omega
    obtain ⟨t, ht⟩ : ∃ t, l[n]? = some t := ⟨_, List.getElem?_eq_getElem hn⟩
    have hw : IntKind.i64.wrap ((n : Int) + 1) = (n : Int) + 1 := wrap_in (by omega) (by omega)
    iterate 15 (refine dRun_chunk 1 fun Q0 q0 => ?_; simp only [↓dRun, ↓dOp, ↓bO, go_sem, seval, Tok.cells, rC, h0, hn, gM ht, hw]; refine q0 _ ?_; clear q0 Q0; simp only [go_sem])
    refine dRun_case 40 rfl (fun hc40 => ?_) (fun hc40 => ?_)
    ·
     simp only [List.set_cons_zero, List.set_cons_succ]
     have h2 : t.k = k := by simpa using hc40
     iterate 13 (refine dRun_chunk 1 fun Q0 q0 => ?_; simp only [↓dRun, ↓dOp, ↓bO, go_sem, seval, Tok.cells, rC, h0, hn, gM ht, hw]; refine q0 _ ?_; clear q0 Q0; simp only [go_sem])
     simp only [↓dRun, ↓dOp, ↓bO, go_sem, seval, Tok.cells, rC, h0, hn, gM ht, hw]
     refine j0 _ ?_
     clear j0 J0
     simp only [go_sem]
     simp only [↓bO, go_sem, seval, Tok.cells, rC, h0, hn, gM ht, hw]
     refine y0 _ ?_
     try clear y0 Y0
     refine AWp_seqK fun Y0 y0 => ?_
     refine AWp_seqK fun Y1 y1 => ?_
     refine AWp_region ?_
     simp only [↓bO, go_sem, seval, Tok.cells, rC, h0, hn, gM ht, hw]
     refine y1 _ ?_
     try clear y1 Y1
     refine AWp_cond rfl (fun hb55 => ?_) (fun hb55 => ?_)
     ·
      have h3 : eqS t.s s = true := hb55
      refine AWp_region ?_
      iterate 7 (refine aops_chunk 1 fun Q0 q0 => ?_; simp only [↓bO, go_sem, seval, Tok.cells, rC, h0, hn, gM ht, hw]; refine q0 _ ?_; clear q0 Q0; simp only [go_sem])
      simp only [↓bO, go_sem, seval, Tok.cells, rC, h0, hn, gM ht, hw]
      refine y0 _ ?_
      try clear y0 Y0
      refine AWp_seqK fun Y0 y0 => ?_
      refine AWp_region ?_
      refine aops_chunk 1 fun Q0 q0 => ?_
      simp only [↓bO, go_sem, seval, Tok.cells, rC, h0, hn, gM ht, hw]
      refine q0 _ ?_
      clear q0 Q0
      simp only [go_sem]
      simp only [↓bO, go_sem, seval, Tok.cells, rC, h0, hn, gM ht, hw]
      refine y0 _ ?_
      try clear y0 Y0
      refine AWp_ret ?_
      try simp only [thenQ, blockQ, noGotoQ, retQ, aRes, tupOf, bS, bA]
      rw [(isT_yes (by omega) (by simpa using ht) h2).trans h3, if_pos rfl]
      refine ⟨_, _, ⟨rfl, rfl⟩, .v _ _, rUnd (by omega) _ _ _ _, ?_, ?_, by omega⟩
      · first | exact Le.refl _ | exact Le.of_eq (congrArg (fun b => AV.v (.bool b)) h3)
      · first | exact ⟨0, rfl, rfl⟩ | exact ⟨1, rfl, rfl⟩ | exact ⟨2, rfl, rfl⟩ | exact ⟨3, rfl, rfl⟩
     ·
      have h3 : eqS t.s s = false := hb55
      refine AWp_skip ?_
      try simp only [thenQ, blockQ, noGotoQ]
      refine y0 _ ?_
      try clear y0 Y0
      refine AWp_seqK fun Y0 y0 => ?_
      refine AWp_region ?_
      refine aops_chunk 1 fun Q0 q0 => ?_
      simp only [↓bO, go_sem, seval, Tok.cells, rC, h0, hn, gM ht, hw]
      refine q0 _ ?_
      clear q0 Q0
      simp only [go_sem]
      simp only [↓bO, go_sem, seval, Tok.cells, rC, h0, hn, gM ht, hw]
      refine y0 _ ?_
      try clear y0 Y0
      refine AWp_ret ?_
      try simp only [thenQ, blockQ, noGotoQ, retQ, aRes, tupOf, bS, bA]
      have hr : isT l _ k s = false := (isT_yes (by omega) (by simpa using ht) h2).trans h3
      rw [hr, if_neg (by simp)]
      refine ⟨_, _, ⟨rfl, rfl⟩, .v _ _, rUnd (by omega) _ _ _ _, ?_, ?_, by omega⟩
      · first | exact Le.refl _ | exact Le.of_eq (congrArg (fun b => AV.v (.bool b)) h3)
      · first | exact ⟨0, rfl, rfl⟩ | exact ⟨1, rfl, rfl⟩ | exact ⟨2, rfl, rfl⟩ | exact ⟨3, rfl, rfl⟩
    ·
     simp only [List.set_cons_zero, List.set_cons_succ]
     have h2 : ¬ t.k = k := by simpa using hc40
     iterate 13 (refine dRun_chunk 1 fun Q0 q0 => ?_; simp only [↓dRun, ↓dOp, ↓bO, go_sem, seval, Tok.cells, rC, h0, hn, gM ht, hw]; refine q0 _ ?_; clear q0 Q0; simp only [go_sem])
     simp only [↓dRun, ↓dOp, ↓bO, go_sem, seval, Tok.cells, rC, h0, hn, gM ht, hw]
     refine j0 _ ?_
     clear j0 J0
     simp only [go_sem]
     simp only [↓bO, go_sem, seval, Tok.cells, rC, h0, hn, gM ht, hw]
     refine y0 _ ?_
     try clear y0 Y0
     refine AWp_seqK fun Y0 y0 => ?_
     refine AWp_seqK fun Y1 y1 => ?_
     refine AWp_region ?_
     simp only [↓bO, go_sem, seval, Tok.cells, rC, h0, hn, gM ht, hw]
     refine y1 _ ?_
     try clear y1 Y1
     refine AWp_cond (b := false) (by first | exact rfl | exact congrArg (fun b => AV.v (.bool b)) hb55) (fun h => (by cases h)) (fun _ => ?_)
     refine AWp_skip ?_
     try simp only [thenQ, blockQ, noGotoQ]
     refine y0 _ ?_
     try clear y0 Y0
     refine AWp_seqK fun Y0 y0 => ?_
     refine AWp_region ?_
     refine aops_chunk 1 fun Q0 q0 => ?_
     simp only [↓bO, go_sem, seval, Tok.cells, rC, h0, hn, gM ht, hw]
     refine q0 _ ?_
     clear q0 Q0
     simp only [go_sem]
     simp only [↓bO, go_sem, seval, Tok.cells, rC, h0, hn, gM ht, hw]
     refine y0 _ ?_
     try clear y0 Y0
     refine AWp_ret ?_
     try simp only [thenQ, blockQ, noGotoQ, retQ, aRes, tupOf, bS, bA]
     have hr : isT l _ k s = false := isT_no (by omega) (by simpa using ht) h2
     rw [hr, if_neg (by simp)]
     refine ⟨_, _, ⟨rfl, rfl⟩, .v _ _, rUnd (by omega) _ _ _ _, ?_, ?_, by omega⟩
     · first | exact Le.refl _ | exact Le.of_eq (congrArg (fun b => AV.v (.bool b)) h3)
     · first | exact ⟨0, rfl, rfl⟩ | exact ⟨1, rfl, rfl⟩ | exact ⟨2, rfl, rfl⟩ | exact ⟨3, rfl, rfl⟩
   ·
    simp only [List.set_cons_zero, List.set_cons_succ]
    have h1 : ¬ i < (l.length : Int) := by simpa using hc25
    iterate 28 (refine dRun_chunk 1 fun Q0 q0 => ?_; simp only [↓dRun, ↓dOp, ↓bO, go_sem, seval, Tok.cells, rC, h0]; refine q0 _ ?_; clear q0 Q0; simp only [go_sem])
    simp only [↓dRun, ↓dOp, ↓bO, go_sem, seval, Tok.cells, rC, h0]
    refine j0 _ ?_
    clear j0 J0
    simp only [go_sem]
    simp only [↓bO, go_sem, seval, Tok.cells, rC, h0]
    refine y0 _ ?_
    try clear y0 Y0
    refine AWp_seqK fun Y0 y0 => ?_
    refine AWp_seqK fun Y1 y1 => ?_
    refine AWp_region ?_
    simp only [↓bO, go_sem, seval, Tok.cells, rC, h0]
    refine y1 _ ?_
    try clear y1 Y1
    refine AWp_cond (b := false) (by first | exact rfl | exact congrArg (fun b => AV.v (.bool b)) hb55) (fun h => (by cases h)) (fun _ => ?_)
    refine AWp_skip ?_
    try simp only [thenQ, blockQ, noGotoQ]
    refine y0 _ ?_
    try clear y0 Y0
    refine AWp_seqK fun Y0 y0 => ?_
    refine AWp_region ?_
    refine aops_chunk 1 fun Q0 q0 => ?_
    simp only [↓bO, go_sem, seval, Tok.cells, rC, h0]
    refine q0 _ ?_
    clear q0 Q0
    simp only [go_sem]
    simp only [↓bO, go_sem, seval, Tok.cells, rC, h0]
    refine y0 _ ?_
    try clear y0 Y0
    refine AWp_ret ?_
    try simp only [thenQ, blockQ, noGotoQ, retQ, aRes, tupOf, bS, bA]
    have hr : isT l _ k s = false := isT_out fun h => h1 h.2
    rw [hr, if_neg (by simp)]
    refine ⟨_, _, ⟨rfl, rfl⟩, .v _ _, rUnd (by omega) _ _ _ _, ?_, ?_, by omega⟩
    · first | exact Le.refl _ | exact Le.of_eq (congrArg (fun b => AV.v (.bool b)) h3)
    · first | exact ⟨0, rfl, rfl⟩ | exact ⟨1, rfl, rfl⟩ | exact ⟨2, rfl, rfl⟩ | exact ⟨3, rfl, rfl⟩
  ·
   simp only [List.set_cons_zero, List.set_cons_succ]
   have h0 : ¬ 0 ≤ i := by simpa using hc13
   iterate 40 (refine dRun_chunk 1 fun Q0 q0 => ?_; simp only [↓dRun, ↓dOp, ↓bO, go_sem, seval, Tok.cells, rC]; refine q0 _ ?_; clear q0 Q0; simp only [go_sem])
   simp only [↓dRun, ↓dOp, ↓bO, go_sem, seval, Tok.cells, rC]
   refine j0 _ ?_
   clear j0 J0
   simp only [go_sem]
   simp only [↓bO, go_sem, seval, Tok.cells, rC]
   refine y0 _ ?_
   try clear y0 Y0
   refine AWp_seqK fun Y0 y0 => ?_
   refine AWp_seqK fun Y1 y1 => ?_
   refine AWp_region ?_
   simp only [↓bO, go_sem, seval, Tok.cells, rC]
   refine y1 _ ?_
   try clear y1 Y1
   refine AWp_cond (b := false) (by first | exact rfl | exact congrArg (fun b => AV.v (.bool b)) hb55) (fun h => (by cases h)) (fun _ => ?_)
   refine AWp_skip ?_
   try simp only [thenQ, blockQ, noGotoQ]
   refine y0 _ ?_
   try clear y0 Y0
   refine AWp_seqK fun Y0 y0 => ?_
   refine AWp_region ?_
   refine aops_chunk 1 fun Q0 q0 => ?_
   simp only [↓bO, go_sem, seval, Tok.cells, rC]
   refine q0 _ ?_
   clear q0 Q0
   simp only [go_sem]
   simp only [↓bO, go_sem, seval, Tok.cells, rC]
   refine y0 _ ?_
   try clear y0 Y0
   refine AWp_ret ?_
   try simp only [thenQ, blockQ, noGotoQ, retQ, aRes, tupOf, bS, bA]
   have hr : isT l _ k s = false := isT_out fun h => h0 h.1
   rw [hr, if_neg (by simp)]
   refine ⟨_, _, ⟨rfl, rfl⟩, .v _ _, rUnd (by omega) _ _ _ _, ?_, ?_, by omega⟩
   · first | exact Le.refl _ | exact Le.of_eq (congrArg (fun b => AV.v (.bool b)) h3)
   · first | exact ⟨0, rfl, rfl⟩ | exact ⟨1, rfl, rfl⟩ | exact ⟨2, rfl, rfl⟩ | exact ⟨3, rfl, rfl⟩
def WholeOk (l : List Tok) (m : Int) (g : Nat) : Prop := ∀ i lv : Int, lft l i < g → -1000000 ≤ lv → lv + lft l i ≤ 1000000 →
  RCalls 20 [.ptr 0 0, .v (.int .i64 lv)] l m i 0 (.agg (rdP l m g none i lv).1.cells) (rdP l m g none i lv).2.1 (rdP l m g none i lv).2.2
theorem list_c (l : List Tok) (m : Int) (f : Nat) (hl : l.length ≤ 1048576) (ih : ∀ g, g ≤ f → WholeOk l m g) (i lv : Int) (hi : lft l i < f) (hlv : -1000000 ≤ lv) (hlv2 : lv + lft l i ≤ 1000000) : RCalls 37 [.ptr 0 0, .v (.int .i64 lv), .mth 20 [.ptr 0 0]] l m i 0 (.agg (lsP l m f i lv).1.cells) (lsP l m f i lv).2.1 (lsP l m f i lv).2.2 := by
  refine ACalls.clean (C := fun r os' => r = _ ∧ os' = _) ?_
  refine ACalls_intro Tryd.func37 (by kernel_rfl) rfl (by rw [Tryd.ntmps37]; simp) (fun hm => ?_)
  simp only [Tryd.ntmps37, Tryd.results37, List.length_cons, List.length_nil, Nat.reduceAdd, Nat.reduceSub, List.replicate_succ, List.replicate_zero, List.cons_append, List.nil_append]
  refine AWp_seqK fun Y0 y0 => ?_
  refine AWp_region ?_
  simp only [↓bO, go_sem, seval, Tok.cells, rC]
  refine y0 _ ?_
  try clear y0 Y0
  refine AWp_scope ?_
  refine AWp_seqK fun Y0 y0 => ?_
  refine AWp_midK 3 [_] [_] rfl fun Q0 q0 => ?_
  iterate 2 (simp only [go_sem]; refine aops_chunk 1 fun Q0 q0 => ?_; simp only [↓bO, go_sem, seval, Tok.cells, rC]; refine q0 _ ?_; clear q0 Q0)
  simp only [go_sem]
  simp only [↓bO, go_sem, seval, Tok.cells, rC]
  refine RCalls.at (k := 0) (ih f (Nat.le_refl f) i lv hi hlv hlv2) ?_ (Ty.dataAgg _) rfl (by first | omega | (simp only; omega)) ?_
  · exact ⟨.ptr rfl, .v _, trivial⟩
  simp only [putO, Nat.reduceEqDiff, ↓reduceIte]
  try simp only [bS, bA, thenQ, blockQ, noGotoQ]
  refine q0 _ ?_
  clear q0 Q0
  refine MidAt_lit ei26 (by decide) rfl (by decide) (by intro p hp; simp at hp; subst hp; exact ⟨rfl, Ty.cells_len _⟩) ?_
  simp only [putO, bS, bA, tyX, Tok.cells, List.length_map, rC]
  simp only [↓bO, go_sem, seval, Tok.cells, rC]
  refine y0 _ ?_
  try clear y0 Y0
  refine AWp_seqK fun Y0 y0 => ?_
  refine AWp_label ?_
  try simp only [thenQ, blockQ, noGotoQ]
  refine y0 _ ?_
  try clear y0 Y0
  refine AWp_seqK fun Y0 y0 => ?_
  refine AWp_block ?_
  refine AWp_loopM (σ := LS) (mB 55 199) (fun s => s.ok l m f lv i (lsP l m f i lv)) (fun s => [(7, .osl 2 3 (s.ps.map Ty.cells))]) (fun s => [(2, .tok 28 3 s.ps.length), (0, .cells 56 (rC l m s.i s.e))]) (fun s => if s.e = 0 then s.f + 1 else 0) ⟨f, [(rdP l m f none i lv).1], (rdP l m f none i lv).2.1, (rdP l m f none i lv).2.2⟩ (LS.start l m f i lv hi) ?_ (fun s hs => ?_)
  ·
   try simp only [maskL, setsL, putsO, putO, mB, List.set_cons_zero, List.set_cons_succ, seval, bL]
   exact Weak.mk (by simp only [go_sem, Le.refl, Le.any, Le.slNil, Int.natCast_add, Int.cast_ofNat_Int, Int.natCast_one]) (fun _ _ h => h) rfl rfl
  simp only [maskL, setsL, putsO, putO, mB, List.set_cons_zero, List.set_cons_succ, seval]
  refine AWp_seqK fun Y1 y1 => ?_
  refine AWp_seqK fun Y2 y2 => ?_
  refine AWp_region ?_
  iterate 4 (refine aops_chunk 1 fun Q0 q0 => ?_; simp only [↓bO, go_sem, seval, Tok.cells, rC, List.map_append, List.length_append]; refine q0 _ ?_; clear q0 Q0; simp only [go_sem])
  simp only [↓bO, go_sem, seval, Tok.cells, rC, List.map_append, List.length_append]
  refine y2 _ ?_
  try clear y2 Y2
  refine AWp_cond rfl (fun hb17 => ?_) (fun hb17 => ?_)
  ·
   have he : s.e = 0 := by simpa using hb17
   obtain ⟨g, hg, hgf, hlf⟩ := hs.fuel he
   have h8 := hs.2.1
   refine AWp_skip ?_
   try simp only [thenQ, blockQ, noGotoQ]
   refine y1 _ ?_
   try clear y1 Y1
   refine AWp_block ?_
   refine AWp_seqK fun Y1 y1 => ?_
   refine AWp_region ?_
   iterate 4 (refine aops_chunk 1 fun Q0 q0 => ?_; simp only [↓bO, go_sem, seval, Tok.cells, rC, List.map_append, List.length_append, he]; refine q0 _ ?_; clear q0 Q0; simp only [go_sem])
   simp only [↓bO, go_sem, seval, Tok.cells, rC, List.map_append, List.length_append, he]
   refine y1 _ ?_
   try clear y1 Y1
   refine AWp_block ?_
   refine AWp_seqK fun Y1 y1 => ?_
   refine AWp_region ?_
   refine aops_chunk 1 fun Q0 q0 => ?_
   simp only [↓bO, go_sem, seval, Tok.cells, rC, List.map_append, List.length_append, he]
   refine q0 _ ?_
   clear q0 Q0
   simp only [go_sem]
   refine aops_chunk 1 fun Q0 q0 => ?_
   simp only [↓bO, go_sem, seval, Tok.cells, rC, List.map_append, List.length_append, he]
   refine RCalls.at (k := 0) (sign_c l m s.i 0 4 bClose hl) ?_ (.v _) rfl (by first | omega | (simp only; omega)) ?_
   · exact ⟨.ptr rfl, .v _, .v _, trivial⟩
   simp only [putO, Nat.reduceEqDiff, ↓reduceIte]
   try simp only [bS, bA, thenQ, blockQ, noGotoQ]
   refine q0 _ ?_
   clear q0 Q0
   simp only [go_sem]
   simp only [↓bO, go_sem, seval, Tok.cells, rC, List.map_append, List.length_append, he]
   refine y1 _ ?_
   try clear y1 Y1
   refine AWp_cond rfl (fun hb28 => ?_) (fun hb28 => ?_)
   ·
    have h1 : isT l s.i 4 bClose = true := hb28
    simp only [h1, if_true]
    refine AWp_exit ?_
    simp only [thenQ, blockQ, noGotoQ, bA, Nat.reduceEqDiff, ↓reduceIte]
    refine y0 _ ?_
    try clear y0 Y0
    refine AWp_seqK fun Y0 y0 => ?_
    refine AWp_seqK fun Y1 y1 => ?_
    refine AWp_region ?_
    iterate 2 (refine aops_chunk 1 fun Q0 q0 => ?_; simp only [↓bO, go_sem, seval, Tok.cells, rC, he]; refine q0 _ ?_; clear q0 Q0; simp only [go_sem])
    simp only [↓bO, go_sem, seval, Tok.cells, rC, he]
    refine y1 _ ?_
    try clear y1 Y1
    refine AWp_cond rfl (fun hb49 => ?_) (fun hb49 => ?_)
    ·
     obtain ⟨t1, hps, htp⟩ := tupP_one (ps := s.ps) (by have h9 := hb49; simp at h9; omega)
     simp only [hps, List.map_cons, List.map_nil]
     refine AWp_seqK fun Y1 y1 => ?_
     refine AWp_region ?_
     iterate 3 (refine aops_chunk 1 fun Q0 q0 => ?_; simp only [↓bO, go_sem, seval, Tok.cells, rC, he]; refine q0 _ ?_; clear q0 Q0; simp only [go_sem])
     simp only [↓bO, go_sem, seval, Tok.cells, rC, he]
     refine y1 _ ?_
     try clear y1 Y1
     refine AWp_ret ?_
     try simp only [thenQ, blockQ, noGotoQ, retQ, aRes, tupOf, bS, bA, aLoad, getO, pack, bL, Nat.reduceAdd, Nat.reduceLeDiff, Nat.reduceEqDiff, ↓reduceIte, ti28, tyX, Tok.cells, List.length_map, rC, he]
     rw [hs.close he hg h1]
     refine ⟨_, _, ⟨rfl, rfl⟩, .data (Ty.dataAgg _), rUnd (by omega) _ _ _ _, ?_, ?_, by omega⟩
     · simp only [htp]; exact Le.refl _
     · exact ⟨2, rfl, rfl⟩
    ·
     have hln : ¬ s.ps.length = 1 := by (have h9 := hb49; simp at h9; omega)
     refine AWp_skip ?_
     try simp only [thenQ, blockQ, noGotoQ]
     refine y0 _ ?_
     try clear y0 Y0
     refine AWp_seqK fun Y0 y0 => ?_
     refine AWp_region ?_
     iterate 2 (refine aops_chunk 1 fun Q0 q0 => ?_; simp only [↓bO, go_sem, seval, Tok.cells, rC, he]; refine q0 _ ?_; clear q0 Q0; simp only [go_sem])
     simp only [↓bO, go_sem, seval, Tok.cells, rC, he]
     refine y0 _ ?_
     try clear y0 Y0
     refine AWp_ret ?_
     try simp only [thenQ, blockQ, noGotoQ, retQ, aRes, tupOf, bS, bA, aLoad, getO, pack, bL, Nat.reduceAdd, Nat.reduceLeDiff, Nat.reduceEqDiff, ↓reduceIte, ti28, tyX, Tok.cells, List.length_map, rC, he]
     rw [hs.close he hg h1]
     refine ⟨_, _, ⟨rfl, rfl⟩, .data (Ty.dataAgg _), rUnd (by omega) _ _ _ _, ?_, ?_, by omega⟩
     · simp only [tupP_more hln]; rw [Ty.cells_eq]; exact Le.agg ⟨.refl _, .refl _, Le.osl _ _ _, trivial⟩
     · exact ⟨2, rfl, rfl⟩
   ·
    have h1 : isT l s.i 4 bClose = false := hb28
    simp only [h1, Bool.false_eq_true, if_false]
    refine AWp_seqK fun Y1 y1 => ?_
    refine AWp_region ?_
    refine aops_chunk 1 fun Q0 q0 => ?_
    simp only [↓bO, go_sem, seval, Tok.cells, rC, List.map_append, List.length_append, he]
    refine q0 _ ?_
    clear q0 Q0
    simp only [go_sem]
    refine aops_chunk 1 fun Q0 q0 => ?_
    simp only [↓bO, go_sem, seval, Tok.cells, rC, List.map_append, List.length_append, he]
    refine RCalls.at (k := 0) (sign_c l m s.i 0 4 bStar hl) ?_ (.v _) rfl (by first | omega | (simp only; omega)) ?_
    · exact ⟨.ptr rfl, .v _, .v _, trivial⟩
    simp only [putO, Nat.reduceEqDiff, ↓reduceIte]
    try simp only [bS, bA, thenQ, blockQ, noGotoQ]
    refine q0 _ ?_
    clear q0 Q0
    simp only [go_sem]
    refine aops_chunk 1 fun Q0 q0 => ?_
    simp only [↓bO, go_sem, seval, Tok.cells, rC, List.map_append, List.length_append, he]
    refine q0 _ ?_
    clear q0 Q0
    simp only [go_sem]
    simp only [↓bO, go_sem, seval, Tok.cells, rC, List.map_append, List.length_append, he]
    refine y1 _ ?_
    try clear y1 Y1
    refine AWp_cond rfl (fun hb31 => ?_) (fun hb31 => ?_)
    ·
     have h2 : isT l s.i 4 bStar = false := by simpa using hb31
     simp only [h2, Bool.false_eq_true, if_false]
     refine AWp_region ?_
     refine aops_chunk 1 fun Q0 q0 => ?_
     simp only [↓bO, go_sem, seval, Tok.cells, rC, List.map_append, List.length_append, he]
     refine q0 _ ?_
     clear q0 Q0
     simp only [go_sem]
     simp only [↓bO, go_sem, seval, Tok.cells, rC, List.map_append, List.length_append, he]
     refine RCalls.at (k := 0) (fail_c l m s.i 0 true 3) ?_ (.tup .nil) rfl (by first | omega | (simp only; omega)) ?_
     · exact ⟨.ptr rfl, .v _, .v _, trivial⟩
     simp only [putO, Nat.reduceEqDiff, ↓reduceIte]
     rw [if_pos (by simp)]
     try simp only [bS, bA, thenQ, blockQ, noGotoQ]
     refine ⟨⟨s.f, s.ps, s.i, 3⟩, hs.form he hg h1 h2, by (simp only [he, if_true]; rw [if_neg (by decide)]; omega), ?_⟩
     try simp only [maskL, setsL, putsO, putO, mB, List.set_cons_zero, List.set_cons_succ, seval, List.map_append, bL, List.length_append, he]
     exact Weak.mk (by simp only [go_sem, Le.refl, Le.any, Le.slNil, Int.natCast_add, Int.cast_ofNat_Int, Int.natCast_one]) (fun _ _ h => h) rfl rfl
    ·
     have h2 : isT l s.i 4 bStar = true := by simpa using hb31
     simp only [h2, if_true]
     refine AWp_seqK fun Y1 y1 => ?_
     refine AWp_region ?_
     iterate 3 (refine aops_chunk 1 fun Q0 q0 => ?_; simp only [↓bO, go_sem, seval, Tok.cells, rC, List.map_append, List.length_append, he]; refine q0 _ ?_; clear q0 Q0; simp only [go_sem])
     simp only [↓bO, go_sem, seval, Tok.cells, rC, List.map_append, List.length_append, he]
     refine y1 _ ?_
     try clear y1 Y1
     refine AWp_cond rfl (fun hb37 => ?_) (fun hb37 => ?_)
     ·
      have h3 : s.ps.length = 8 := by (have h9 := hb37; simp at h9; omega)
      refine AWp_seqK fun Y1 y1 => ?_
      refine AWp_region ?_
      iterate 4 (refine aops_chunk 1 fun Q0 q0 => ?_; simp only [↓bO, go_sem, seval, Tok.cells, rC, List.map_append, List.length_append, he]; refine q0 _ ?_; clear q0 Q0; simp only [go_sem])
      simp only [↓bO, go_sem, seval, Tok.cells, rC, List.map_append, List.length_append, he]
      refine y1 _ ?_
      try clear y1 Y1
      refine AWp_region ?_
      refine aops_chunk 1 fun Q0 q0 => ?_
      simp only [↓bO, go_sem, seval, Tok.cells, rC, List.map_append, List.length_append, he]
      refine q0 _ ?_
      clear q0 Q0
      simp only [go_sem]
      simp only [↓bO, go_sem, seval, Tok.cells, rC, List.map_append, List.length_append, he]
      refine RCalls.at (k := 0) (fail_c l m s.i 0 true 6) ?_ (.tup .nil) rfl (by first | omega | (simp only; omega)) ?_
      · exact ⟨.ptr rfl, .v _, .v _, trivial⟩
      simp only [putO, Nat.reduceEqDiff, ↓reduceIte]
      rw [if_pos (by simp)]
      try simp only [bS, bA, thenQ, blockQ, noGotoQ]
      refine ⟨⟨s.f, s.ps, s.i, 6⟩, hs.many he hg h1 h2 h3, by (simp only [he, if_true]; rw [if_neg (by decide)]; omega), ?_⟩
      try simp only [maskL, setsL, putsO, putO, mB, List.set_cons_zero, List.set_cons_succ, seval, List.map_append, bL, List.length_append, he]
      exact Weak.mk (by simp only [go_sem, Le.refl, Le.any, Le.slNil, Int.natCast_add, Int.cast_ofNat_Int, Int.natCast_one]) (fun _ _ h => h) rfl rfl
     ·
      have h3 : ¬ s.ps.length = 8 := by (have h9 := hb37; simp at h9; omega)
      have hb1 : (s.ps.length + 1) * 40 ≤ 140737488355328 := by omega
      have hb2 : s.ps.length + 1 ≤ maxLen := by (simp only [maxLen]; omega)
      refine AWp_region ?_
      iterate 3 (refine aops_chunk 1 fun Q0 q0 => ?_; simp only [↓bO, go_sem, seval, Tok.cells, rC, List.map_append, List.length_append, he, hb1, hb2]; refine q0 _ ?_; clear q0 Q0; simp only [go_sem])
      refine aops_chunk 1 fun Q0 q0 => ?_
      simp only [↓bO, go_sem, seval, Tok.cells, rC, List.map_append, List.length_append, he, hb1, hb2]
      refine RCalls.at (k := 0) (ih g (by omega) (s.i + 1) lv (by have := lft_next h2; omega) hlv (by have := lft_next h2; have := lft_le (l := l) hs.2.2.1; omega)) ?_ (Ty.dataAgg _) rfl (by first | omega | (simp only; omega)) ?_
      · exact ⟨.ptr rfl, .v _, trivial⟩
      simp only [putO, Nat.reduceEqDiff, ↓reduceIte]
      try simp only [bS, bA, thenQ, blockQ, noGotoQ]
      refine q0 _ ?_
      clear q0 Q0
      simp only [go_sem]
      refine aops_chunk 1 fun Q0 q0 => ?_
      simp only [↓bO, go_sem, seval, ↓bs1_1, ↓bs1_2, ↓bs1_3, ↓bs1_4, ↓bs1_5, ↓bs1_6, ↓bs1_7, ↓bs1_8, ↓bs1_9, ↓bs1_10, ↓bs1_11, ↓bs1_12, Tok.cells, rC, List.map_append, List.length_append, he, hb1, hb2]
      refine q0 _ ?_
      clear q0 Q0
      simp only [go_sem]
      refine aops_chunk 1 fun Q0 q0 => ?_
      simp only [↓bO, go_sem, seval, Tok.cells, rC, List.map_append, List.length_append, he, hb1, hb2]
      refine q0 _ ?_
      clear q0 Q0
      simp only [go_sem]
      simp only [↓bO, go_sem, seval, Tok.cells, rC, List.map_append, List.length_append, he, hb1, hb2]
      refine ⟨⟨g, s.ps ++ [(rdP l m g none (s.i + 1) lv).1], (rdP l m g none (s.i + 1) lv).2.1, (rdP l m g none (s.i + 1) lv).2.2⟩, hs.next he hg h1 h2 h3, by (simp only [he, if_true]; split <;> omega), ?_⟩
      try simp only [maskL, setsL, putsO, putO, mB, List.set_cons_zero, List.set_cons_succ, seval, List.map_append, bL, List.length_append, he, hb1, hb2]
      exact Weak.mk (by simp only [go_sem, Le.refl, Le.any, Le.slNil, Int.natCast_add, Int.cast_ofNat_Int, Int.natCast_one]) (fun _ _ h => h) rfl rfl
  ·
   have he : ¬ s.e = 0 := by simpa using hb17
   refine AWp_exit ?_
   simp only [thenQ, blockQ, noGotoQ, bA, Nat.reduceEqDiff, ↓reduceIte]
   refine y0 _ ?_
   try clear y0 Y0
   refine AWp_seqK fun Y0 y0 => ?_
   refine AWp_seqK fun Y1 y1 => ?_
   refine AWp_region ?_
   iterate 2 (refine aops_chunk 1 fun Q0 q0 => ?_; simp only [↓bO, go_sem, seval, Tok.cells, rC]; refine q0 _ ?_; clear q0 Q0; simp only [go_sem])
   simp only [↓bO, go_sem, seval, Tok.cells, rC]
   refine y1 _ ?_
   try clear y1 Y1
   refine AWp_cond rfl (fun hb49 => ?_) (fun hb49 => ?_)
   ·
    obtain ⟨t1, hps, htp⟩ := tupP_one (ps := s.ps) (by have h9 := hb49; simp at h9; omega)
    simp only [hps, List.map_cons, List.map_nil]
    refine AWp_seqK fun Y1 y1 => ?_
    refine AWp_region ?_
    iterate 3 (refine aops_chunk 1 fun Q0 q0 => ?_; simp only [↓bO, go_sem, seval, Tok.cells, rC]; refine q0 _ ?_; clear q0 Q0; simp only [go_sem])
    simp only [↓bO, go_sem, seval, Tok.cells, rC]
    refine y1 _ ?_
    try clear y1 Y1
    refine AWp_ret ?_
    try simp only [thenQ, blockQ, noGotoQ, retQ, aRes, tupOf, bS, bA, aLoad, getO, pack, bL, Nat.reduceAdd, Nat.reduceLeDiff, Nat.reduceEqDiff, ↓reduceIte, ti28, tyX, Tok.cells, List.length_map, rC]
    rw [hs.stop he]
    refine ⟨_, _, ⟨rfl, rfl⟩, .data (Ty.dataAgg _), rUnd (by omega) _ _ _ _, ?_, ?_, by omega⟩
    · simp only [htp]; exact Le.refl _
    · exact ⟨2, rfl, rfl⟩
   ·
    have hln : ¬ s.ps.length = 1 := by (have h9 := hb49; simp at h9; omega)
    refine AWp_skip ?_
    try simp only [thenQ, blockQ, noGotoQ]
    refine y0 _ ?_
    try clear y0 Y0
    refine AWp_seqK fun Y0 y0 => ?_
    refine AWp_region ?_
    iterate 2 (refine aops_chunk 1 fun Q0 q0 => ?_; simp only [↓bO, go_sem, seval, Tok.cells, rC]; refine q0 _ ?_; clear q0 Q0; simp only [go_sem])
    simp only [↓bO, go_sem, seval, Tok.cells, rC]
    refine y0 _ ?_
    try clear y0 Y0
    refine AWp_ret ?_
    try simp only [thenQ, blockQ, noGotoQ, retQ, aRes, tupOf, bS, bA, aLoad, getO, pack, bL, Nat.reduceAdd, Nat.reduceLeDiff, Nat.reduceEqDiff, ↓reduceIte, ti28, tyX, Tok.cells, List.length_map, rC]
    rw [hs.stop he]
    refine ⟨_, _, ⟨rfl, rfl⟩, .data (Ty.dataAgg _), rUnd (by omega) _ _ _ _, ?_, ?_, by omega⟩
    · simp only [tupP_more hln]; rw [Ty.cells_eq]; exact Le.agg ⟨.refl _, .refl _, Le.osl _ _ _, trivial⟩
    · exact ⟨2, rfl, rfl⟩
theorem whole_s (l : List Tok) (m : Int) (hl : l.length ≤ 1048576) (f : Nat) (ih : ∀ g, g ≤ f → WholeOk l m g) (i lv : Int) (hi : lft l i < f + 1) (hlv : -1000000 ≤ lv) (hlv2 : lv + lft l i ≤ 1000000) : RCalls 20 [.ptr 0 0, .v (.int .i64 lv)] l m i 0 (.agg (rdP l m (f + 1) none i lv).1.cells) (rdP l m (f + 1) none i lv).2.1 (rdP l m (f + 1) none i lv).2.2 := by
  refine ACalls.clean (C := fun r os' => r = _ ∧ os' = _) ?_
  refine ACalls_intro Tryd.func20 (by kernel_rfl) rfl (by rw [Tryd.ntmps20]; simp) (fun hm => ?_)
  simp only [Tryd.ntmps20, Tryd.results20, List.length_cons, List.length_nil, Nat.reduceAdd, Nat.reduceSub, List.replicate_succ, List.replicate_zero, List.cons_append, List.nil_append]
  have hw0 : IntKind.i64.wrap (lv + 1) = lv + 1 := wrap_in (by omega) (by omega)
  refine AWp_seqK fun Y0 y0 => ?_
  refine AWp_region ?_
  simp only [↓bO, go_sem, seval, Tok.cells, rC]
  refine y0 _ ?_
  try clear y0 Y0
  refine AWp_seqK fun Y0 y0 => ?_
  refine AWp_region ?_
  iterate 7 (refine aops_chunk 1 fun Q0 q0 => ?_; simp only [↓bO, go_sem, seval, Tok.cells, rC]; refine q0 _ ?_; clear q0 Q0; simp only [go_sem])
  simp only [↓bO, go_sem, seval, Tok.cells, rC]
  obtain ⟨e0, hE⟩ : ∃ e0, (if decide (lv > m) = true ∧ (0 : Int) = 0 then (4 : Int) else 0) = e0 := ⟨_, rfl⟩
  have hf := fail_c l m i 0 (decide (lv > m)) 4
  rw [hE] at hf
  refine RCalls.at (k := 0) (hf) ?_ (.tup .nil) rfl (by first | omega | (simp only; omega)) ?_
  · exact ⟨.ptr rfl, .v _, .v _, trivial⟩
  simp only [putO, Nat.reduceEqDiff, ↓reduceIte]
  try simp only [bS, bA, thenQ, blockQ, noGotoQ]
  refine y0 _ ?_
  try clear y0 Y0
  refine AWp_seqK fun Y0 y0 => ?_
  refine AWp_region ?_
  iterate 2 (refine aops_chunk 1 fun Q0 q0 => ?_; simp only [↓bO, go_sem, seval, Tok.cells, rC]; refine q0 _ ?_; clear q0 Q0; simp only [go_sem])
  simp only [↓bO, go_sem, seval, Tok.cells, rC]
  refine y0 _ ?_
  try clear y0 Y0
  refine AWp_joinE (σ := Ty × Int × Int) (mB 58 51) (fun j => []) (fun j => [(2, .cells 28 j.1.cells), (0, .cells 56 (rC l m j.2.1 j.2.2))]) (fun j => ¬ m < lv ∧ bsP l m f i lv = j) ?_ (fun j hj => ?_)
  ·
   refine AWp_block ?_
   refine AWp_weak (Weak.recell (id := 2) (t := 28) [.v (.int .i64 0), .v (.int .i64 0), .sl 3 []] rfl ⟨.refl _, .refl _, Le.slNil 3, trivial⟩) ?_
   simp only [putO, Nat.reduceEqDiff, ↓reduceIte]
   refine AWp_seqK fun Y0 y0 => ?_
   refine AWp_region ?_
   iterate 5 (refine aops_chunk 1 fun Q0 q0 => ?_; simp only [↓bO, go_sem, seval, Tok.cells, rC]; refine q0 _ ?_; clear q0 Q0; simp only [go_sem])
   simp only [↓bO, go_sem, seval, Tok.cells, rC]
   refine y0 _ ?_
   try clear y0 Y0
   refine AWp_cond rfl (fun hb17 => ?_) (fun hb17 => ?_)
   ·
    obtain ⟨hd, rfl⟩ : m < lv ∧ e0 = 4 := (deep_e hE).resolve_right fun h => by simp [h.2] at hb17
    refine AWp_seqK fun Y0 y0 => ?_
    refine AWp_region ?_
    refine aops_chunk 1 fun Q0 q0 => ?_
    simp only [↓bO, go_sem, seval, Tok.cells, rC]
    refine q0 _ ?_
    clear q0 Q0
    simp only [go_sem]
    simp only [↓bO, go_sem, seval, Tok.cells, rC]
    refine y0 _ ?_
    try clear y0 Y0
    refine AWp_ret ?_
    try simp only [thenQ, blockQ, noGotoQ, retQ, aRes, tupOf, bS, bA, aLoad, getO, pack, bL, Nat.reduceAdd, Nat.reduceLeDiff, Nat.reduceEqDiff, ↓reduceIte, ti28, tyX, Tok.cells, List.length_map, rC]
    rw [rdP_none, if_pos hd]
    refine ⟨_, _, ⟨rfl, rfl⟩, .data (Ty.dataAgg _), rUnd (by omega) _ _ _ _, ?_, ?_, by omega⟩
    · first | exact Le.refl _ | (simp only [zTy, Ty.cells_eq, Ty.k, Ty.n, Ty.ps, List.map_cons, List.map_nil]; exact Le.refl _)
    · exact ⟨2, rfl, rfl⟩
   ·
    obtain ⟨hd, rfl⟩ : ¬ m < lv ∧ e0 = 0 := (deep_e hE).resolve_left fun h => by simp [h.2] at hb17
    refine AWp_seqK fun Y0 y0 => ?_
    refine AWp_region ?_
    refine aops_chunk 1 fun Q0 q0 => ?_
    simp only [↓bO, go_sem, seval, Tok.cells, rC, hw0]
    refine q0 _ ?_
    clear q0 Q0
    simp only [go_sem]
    refine aops_chunk 1 fun Q0 q0 => ?_
    simp only [↓bO, go_sem, seval, Tok.cells, rC, hw0]
    refine RCalls.at (k := 0) (sign_c l m i 0 3 bInt hl) ?_ (.v _) rfl (by first | omega | (simp only; omega)) ?_
    · exact ⟨.ptr rfl, .v _, .v _, trivial⟩
    simp only [putO, Nat.reduceEqDiff, ↓reduceIte]
    try simp only [bS, bA, thenQ, blockQ, noGotoQ]
    refine q0 _ ?_
    clear q0 Q0
    simp only [go_sem]
    simp only [↓bO, go_sem, seval, Tok.cells, rC, hw0]
    refine y0 _ ?_
    try clear y0 Y0
    refine AWp_cond rfl (fun hb24 => ?_) (fun hb24 => ?_)
    ·
     have hA : isT l i 3 bInt = true := hb24
     simp only [hA, if_true]
     have hbs : bsP l m f i lv = (.mk 2 0 [], i + 1, 0) := by (unfold bsP; rw [if_pos hA])
     refine AWp_region ?_
     refine aops_chunk 1 fun Q0 q0 => ?_
     simp only [↓bO, go_sem, seval, Tok.cells, rC, hw0]
     refine q0 _ ?_
     clear q0 Q0
     simp only [go_sem]
     simp only [↓bO, go_sem, seval, Tok.cells, rC, hw0]
     try simp only [maskL, setsL, putsO, putO, mB, List.set_cons_zero, List.set_cons_succ, seval]
     refine ⟨(bsP l m f i lv), ⟨hd, rfl⟩, ?_⟩
     rw [hbs]
     try simp only [zTy, Ty.cells_eq (Ty.mk 0 0 []), Ty.cells_eq (Ty.mk 2 0 []), Ty.cells_eq (Ty.mk 3 0 []), Ty.k, Ty.n, Ty.ps, List.map_nil]
     exact Weak.mk (by simp only [go_sem, Le.refl, Le.any]) (fun _ _ h => h) rfl rfl
    ·
     have hA : isT l i 3 bInt = false := hb24
     simp only [hA, Bool.false_eq_true, if_false]
     refine AWp_seqK fun Y0 y0 => ?_
     refine AWp_region ?_
     refine aops_chunk 1 fun Q0 q0 => ?_
     simp only [↓bO, go_sem, seval, Tok.cells, rC, hw0]
     refine q0 _ ?_
     clear q0 Q0
     simp only [go_sem]
     refine aops_chunk 1 fun Q0 q0 => ?_
     simp only [↓bO, go_sem, seval, Tok.cells, rC, hw0]
     refine RCalls.at (k := 0) (sign_c l m i 0 3 bBool hl) ?_ (.v _) rfl (by first | omega | (simp only; omega)) ?_
     · exact ⟨.ptr rfl, .v _, .v _, trivial⟩
     simp only [putO, Nat.reduceEqDiff, ↓reduceIte]
     try simp only [bS, bA, thenQ, blockQ, noGotoQ]
     refine q0 _ ?_
     clear q0 Q0
     simp only [go_sem]
     simp only [↓bO, go_sem, seval, Tok.cells, rC, hw0]
     refine y0 _ ?_
     try clear y0 Y0
     refine AWp_cond rfl (fun hb28 => ?_) (fun hb28 => ?_)
     ·
      have hB : isT l i 3 bBool = true := hb28
      simp only [hB, if_true]
      have hbs : bsP l m f i lv = (.mk 3 0 [], i + 1, 0) := by (unfold bsP; rw [if_neg (by simp [hA]), if_pos hB])
      refine AWp_region ?_
      refine aops_chunk 1 fun Q0 q0 => ?_
      simp only [↓bO, go_sem, seval, Tok.cells, rC, hw0]
      refine q0 _ ?_
      clear q0 Q0
      simp only [go_sem]
      simp only [↓bO, go_sem, seval, Tok.cells, rC, hw0]
      try simp only [maskL, setsL, putsO, putO, mB, List.set_cons_zero, List.set_cons_succ, seval]
      refine ⟨(bsP l m f i lv), ⟨hd, rfl⟩, ?_⟩
      rw [hbs]
      try simp only [zTy, Ty.cells_eq (Ty.mk 0 0 []), Ty.cells_eq (Ty.mk 2 0 []), Ty.cells_eq (Ty.mk 3 0 []), Ty.k, Ty.n, Ty.ps, List.map_nil]
      exact Weak.mk (by simp only [go_sem, Le.refl, Le.any]) (fun _ _ h => h) rfl rfl
     ·
      have hB : isT l i 3 bBool = false := hb28
      simp only [hB, Bool.false_eq_true, if_false]
      refine AWp_seqK fun Y0 y0 => ?_
      refine AWp_region ?_
      refine aops_chunk 1 fun Q0 q0 => ?_
      simp only [↓bO, go_sem, seval, Tok.cells, rC, hw0]
      refine q0 _ ?_
      clear q0 Q0
      simp only [go_sem]
      refine aops_chunk 1 fun Q0 q0 => ?_
      simp only [↓bO, go_sem, seval, Tok.cells, rC, hw0]
      refine RCalls.at (k := 0) (sign_c l m i 0 4 bOpen hl) ?_ (.v _) rfl (by first | omega | (simp only; omega)) ?_
      · exact ⟨.ptr rfl, .v _, .v _, trivial⟩
      simp only [putO, Nat.reduceEqDiff, ↓reduceIte]
      try simp only [bS, bA, thenQ, blockQ, noGotoQ]
      refine q0 _ ?_
      clear q0 Q0
      simp only [go_sem]
      simp only [↓bO, go_sem, seval, Tok.cells, rC, hw0]
      refine y0 _ ?_
      try clear y0 Y0
      refine AWp_cond rfl (fun hb32 => ?_) (fun hb32 => ?_)
      ·
       have hC : isT l i 4 bOpen = true := hb32
       simp only [hC, if_true]
       have hbs : bsP l m f i lv = lsP l m f (i + 1) (lv + 1) := by (unfold bsP; rw [if_neg (by simp [hA]), if_neg (by simp [hB]), if_pos hC])
       have hC2 := lft_next hC
       refine AWp_region ?_
       iterate 5 (refine aops_chunk 1 fun Q0 q0 => ?_; simp only [↓bO, go_sem, seval, Tok.cells, rC, hw0]; refine q0 _ ?_; clear q0 Q0; simp only [go_sem])
       refine aops_chunk 1 fun Q0 q0 => ?_
       simp only [↓bO, go_sem, seval, Tok.cells, rC, hw0]
       refine RCalls.at (k := 0) (list_c l m f hl ih (i + 1) (lv + 1) (by omega) (by omega) (by omega)) ?_ (Ty.dataAgg _) rfl (by first | omega | (simp only; omega)) ?_
       · exact ⟨.ptr rfl, .v _, .mth ⟨.ptr rfl, trivial⟩, trivial⟩
       simp only [putO, Nat.reduceEqDiff, ↓reduceIte]
       try simp only [bS, bA, thenQ, blockQ, noGotoQ]
       refine q0 _ ?_
       clear q0 Q0
       simp only [go_sem]
       simp only [↓bO, go_sem, seval, Tok.cells, rC, hw0]
       try simp only [maskL, setsL, putsO, putO, mB, List.set_cons_zero, List.set_cons_succ, seval]
       refine ⟨(bsP l m f i lv), ⟨hd, rfl⟩, ?_⟩
       rw [hbs]
       try simp only [zTy, Ty.cells_eq (Ty.mk 0 0 []), Ty.cells_eq (Ty.mk 2 0 []), Ty.cells_eq (Ty.mk 3 0 []), Ty.k, Ty.n, Ty.ps, List.map_nil]
       exact Weak.mk (by simp only [go_sem, Le.refl, Le.any]) (fun _ _ h => h) rfl rfl
      ·
       have hC : isT l i 4 bOpen = false := hb32
       simp only [hC, Bool.false_eq_true, if_false]
       have hbs : bsP l m f i lv = (zTy, i, 3) := by (unfold bsP; rw [if_neg (by simp [hA]), if_neg (by simp [hB]), if_neg (by simp [hC])])
       refine AWp_region ?_
       refine aops_chunk 1 fun Q0 q0 => ?_
       simp only [↓bO, go_sem, seval, Tok.cells, rC, hw0]
       refine q0 _ ?_
       clear q0 Q0
       simp only [go_sem]
       simp only [↓bO, go_sem, seval, Tok.cells, rC, hw0]
       refine RCalls.at (k := 0) (fail_c l m i 0 true 3) ?_ (.tup .nil) rfl (by first | omega | (simp only; omega)) ?_
       · exact ⟨.ptr rfl, .v _, .v _, trivial⟩
       simp only [putO, Nat.reduceEqDiff, ↓reduceIte]
       rw [if_pos (by simp)]
       try simp only [bS, bA, thenQ, blockQ, noGotoQ]
       try simp only [maskL, setsL, putsO, putO, mB, List.set_cons_zero, List.set_cons_succ, seval]
       refine ⟨(bsP l m f i lv), ⟨hd, rfl⟩, ?_⟩
       rw [hbs]
       try simp only [zTy, Ty.cells_eq (Ty.mk 0 0 []), Ty.cells_eq (Ty.mk 2 0 []), Ty.cells_eq (Ty.mk 3 0 []), Ty.k, Ty.n, Ty.ps, List.map_nil]
       exact Weak.mk (by simp only [go_sem, Le.refl, Le.any]) (fun _ _ h => h) rfl rfl
  simp only [maskL, setsL, putsO, putO, mB, List.set_cons_zero, List.set_cons_succ, seval]
  obtain ⟨hd, hj⟩ := hj
  have hjm : lft l j.2.1 ≤ lft l i := lft_le (by rw [← hj]; exact bsP_mono _ _ _ _ _)
  refine AWp_seqK fun Y0 y0 => ?_
  refine AWp_seqK fun Y1 y1 => ?_
  refine AWp_region ?_
  iterate 6 (refine aops_chunk 1 fun Q0 q0 => ?_; simp only [↓bO, go_sem, seval, Tok.cells, rC]; refine q0 _ ?_; clear q0 Q0; simp only [go_sem])
  refine aops_case 46 rfl (fun hc46 => ?_) (fun hc46 => ?_)
  ·
   simp only [List.set_cons_zero, List.set_cons_succ]
   have hj0 : j.2.2 = 0 := by simpa using hc46
   simp only [hj0]
   refine aops_chunk 1 fun Q0 q0 => ?_
   simp only [↓bO, go_sem, seval, Tok.cells, rC, hj0]
   refine q0 _ ?_
   clear q0 Q0
   simp only [go_sem]
   refine aops_chunk 1 fun Q0 q0 => ?_
   simp only [↓bO, go_sem, seval, Tok.cells, rC, hj0]
   refine RCalls.at (k := 0) (sign_c l m j.2.1 0 4 bArrow hl) ?_ (.v _) rfl (by first | omega | (simp only; omega)) ?_
   · exact ⟨.ptr rfl, .v _, .v _, trivial⟩
   simp only [putO, Nat.reduceEqDiff, ↓reduceIte]
   try simp only [bS, bA, thenQ, blockQ, noGotoQ]
   refine q0 _ ?_
   clear q0 Q0
   simp only [go_sem]
   simp only [↓bO, go_sem, seval, Tok.cells, rC, hj0]
   refine y1 _ ?_
   try clear y1 Y1
   refine AWp_cond rfl (fun hb49 => ?_) (fun hb49 => ?_)
   ·
    have hD : isT l j.2.1 4 bArrow = true := hb49
    simp only [hD, if_true]
    refine AAny_start [] 8 rfl mixed (trivial) rfl ?_
    dsimp only
    refine AAny_takeK 1 rfl (by kernel_rfl) (by kernel_rfl) (by kernel_rfl) (fun _ _ h => h) fun Q0 q0 => ?_
    simp only [↓bO, go_sem, seval, Tok.cells, rC, hj0, hw0]
    refine q0 _ ?_
    clear q0 Q0
    refine AAny_takeK 2 rfl (by kernel_rfl) (by kernel_rfl) (by kernel_rfl) (fun _ _ h => h) fun Q0 q0 => ?_
    simp only [↓bO, go_sem, seval, Tok.cells, rC, hj0, hw0]
    refine q0 _ ?_
    clear q0 Q0
    refine AAny_takeI 3 rfl rfl (by kernel_rfl) (by kernel_rfl) (by kernel_rfl) (fun _ _ h => h) fun Q0 q0 => ?_
    simp only [↓bO, go_sem, seval, aInt, Tok.cells, rC, hj0, hw0]
    refine q0 _ ?_
    clear q0 Q0
    refine AAny_all2 (i := 0) (j := 4) (by kernel_rfl) ?_ ?_
    ·
     refine aAt_op rfl rfl fun Q0 q0 => ?_
     simp only [↓bO, go_sem, seval, Tok.cells, rC, hj0, hw0]
     refine q0 _ ⟨trivial, ?_⟩
     clear q0 Q0
     refine AAny_all1 (i := 4) (by kernel_rfl) ?_
     ·
      refine aAt_op rfl rfl fun Q0 q0 => ?_
      simp only [↓bO, go_sem, seval, Tok.cells, rC, hj0, hw0]
      refine RCalls.at (k := 0) (ih f (Nat.le_refl f) (j.2.1 + 1) (lv + 1) (by have := lft_next hD; omega) (by omega) (by have := lft_next hD; omega)) ?_ (Ty.dataAgg _) rfl (by first | omega | (simp only; omega)) ?_
      · exact ⟨.ptr rfl, .v _, trivial⟩
      simp only [putO, Nat.reduceEqDiff, ↓reduceIte]
      try simp only [bS, bA]
      refine q0 _ ⟨trivial, ?_⟩
      clear q0 Q0
      refine AAny_all1 (i := 5) (by kernel_rfl) ?_
      ·
       refine aAt_op rfl rfl fun Q0 q0 => ?_
       simp only [↓bO, go_sem, seval, ↓bs2_1, ↓bs2_2, ↓bs2_3, ↓bs2_4, ↓bs2_5, ↓bs2_6, ↓bs2_7, ↓bs2_8, ↓bs2_9, ↓bs2_10, ↓bs2_11, ↓bs2_12, Tok.cells, rC, hj0, hw0]
       refine q0 _ ⟨trivial, ?_⟩
       clear q0 Q0
       refine AAny_all1 (i := 6) (by kernel_rfl) ?_
       ·
        refine aAt_op rfl rfl fun Q0 q0 => ?_
        simp only [↓bO, go_sem, seval, Tok.cells, rC, hj0, hw0]
        refine q0 _ ⟨trivial, ?_⟩
        clear q0 Q0
        refine AAny_all1 (i := 7) (by kernel_rfl) ?_
        ·
         refine aAt_op rfl rfl fun Q0 q0 => ?_
         simp only [↓bO, go_sem, seval, Tok.cells, rC, hj0, hw0]
         refine q0 _ ⟨trivial, ?_⟩
         clear q0 Q0
         refine AAny_done (by kernel_rfl) ?_
         simp only [thenQ, blockQ, noGotoQ]
         refine y0 _ ?_
         try clear y0 Y0
         refine AWp_seqK fun Y0 y0 => ?_
         refine AWp_region ?_
         refine aops_chunk 1 fun Q0 q0 => ?_
         simp only [↓bO, go_sem, seval, Tok.cells, rC, hj0]
         refine q0 _ ?_
         clear q0 Q0
         simp only [go_sem]
         simp only [↓bO, go_sem, seval, Tok.cells, rC, hj0]
         refine y0 _ ?_
         try clear y0 Y0
         refine AWp_ret ?_
         try simp only [thenQ, blockQ, noGotoQ, retQ, aRes, tupOf, bS, bA, aLoad, getO, pack, bL, Nat.reduceAdd, Nat.reduceLeDiff, Nat.reduceEqDiff, ↓reduceIte, ti28, tyX, Tok.cells, List.length_map, rC, hj0]
         rw [rdP_none, if_neg hd, hj]
         rw [arP, if_pos hj0, if_pos hD]
         refine ⟨_, _, ⟨rfl, rfl⟩, .data (Ty.dataAgg _), rUnd (by omega) _ _ _ _, ?_, ?_, by omega⟩
         · first | exact Le.refl _ | (simp only [zTy, Ty.cells_eq, Ty.k, Ty.n, Ty.ps, List.map_cons, List.map_nil]; exact Le.refl _)
         · exact ⟨2, rfl, rfl⟩
    ·
     refine aAt_op rfl rfl fun Q0 q0 => ?_
     simp only [↓bO, go_sem, seval, Tok.cells, rC, hj0, hw0]
     refine RCalls.at (k := 0) (ih f (Nat.le_refl f) (j.2.1 + 1) (lv + 1) (by have := lft_next hD; omega) (by omega) (by have := lft_next hD; omega)) ?_ (Ty.dataAgg _) rfl (by first | omega | (simp only; omega)) ?_
     · exact ⟨.ptr rfl, .v _, trivial⟩
     simp only [putO, Nat.reduceEqDiff, ↓reduceIte]
     try simp only [bS, bA]
     refine q0 _ ⟨trivial, ?_⟩
     clear q0 Q0
     refine AAny_all1 (i := 0) (by kernel_rfl) ?_
     ·
      refine aAt_op rfl rfl fun Q0 q0 => ?_
      simp only [↓bO, go_sem, seval, Tok.cells, rC, hj0, hw0]
      refine q0 _ ⟨trivial, ?_⟩
      clear q0 Q0
      refine AAny_all1 (i := 5) (by kernel_rfl) ?_
      ·
       refine aAt_op rfl rfl fun Q0 q0 => ?_
       simp only [↓bO, go_sem, seval, ↓bs2_1, ↓bs2_2, ↓bs2_3, ↓bs2_4, ↓bs2_5, ↓bs2_6, ↓bs2_7, ↓bs2_8, ↓bs2_9, ↓bs2_10, ↓bs2_11, ↓bs2_12, Tok.cells, rC, hj0, hw0]
       refine q0 _ ⟨trivial, ?_⟩
       clear q0 Q0
       refine AAny_all1 (i := 6) (by kernel_rfl) ?_
       ·
        refine aAt_op rfl rfl fun Q0 q0 => ?_
        simp only [↓bO, go_sem, seval, Tok.cells, rC, hj0, hw0]
        refine q0 _ ⟨trivial, ?_⟩
        clear q0 Q0
        refine AAny_all1 (i := 7) (by kernel_rfl) ?_
        ·
         refine aAt_op rfl rfl fun Q0 q0 => ?_
         simp only [↓bO, go_sem, seval, Tok.cells, rC, hj0, hw0]
         refine q0 _ ⟨trivial, ?_⟩
         clear q0 Q0
         refine AAny_done (by kernel_rfl) ?_
         simp only [thenQ, blockQ, noGotoQ]
         refine y0 _ ?_
         try clear y0 Y0
         refine AWp_seqK fun Y0 y0 => ?_
         refine AWp_region ?_
         refine aops_chunk 1 fun Q0 q0 => ?_
         simp only [↓bO, go_sem, seval, Tok.cells, rC, hj0]
         refine q0 _ ?_
         clear q0 Q0
         simp only [go_sem]
         simp only [↓bO, go_sem, seval, Tok.cells, rC, hj0]
         refine y0 _ ?_
         try clear y0 Y0
         refine AWp_ret ?_
         try simp only [thenQ, blockQ, noGotoQ, retQ, aRes, tupOf, bS, bA, aLoad, getO, pack, bL, Nat.reduceAdd, Nat.reduceLeDiff, Nat.reduceEqDiff, ↓reduceIte, ti28, tyX, Tok.cells, List.length_map, rC, hj0]
         rw [rdP_none, if_neg hd, hj]
         rw [arP, if_pos hj0, if_pos hD]
         refine ⟨_, _, ⟨rfl, rfl⟩, .data (Ty.dataAgg _), rUnd (by omega) _ _ _ _, ?_, ?_, by omega⟩
         · first | exact Le.refl _ | (simp only [zTy, Ty.cells_eq, Ty.k, Ty.n, Ty.ps, List.map_cons, List.map_nil]; exact Le.refl _)
         · exact ⟨2, rfl, rfl⟩
   ·
    have hD : isT l j.2.1 4 bArrow = false := hb49
    simp only [hD, Bool.false_eq_true, if_false]
    refine AWp_skip ?_
    try simp only [thenQ, blockQ, noGotoQ]
    refine y0 _ ?_
    try clear y0 Y0
    refine AWp_seqK fun Y0 y0 => ?_
    refine AWp_region ?_
    refine aops_chunk 1 fun Q0 q0 => ?_
    simp only [↓bO, go_sem, seval, Tok.cells, rC, hj0]
    refine q0 _ ?_
    clear q0 Q0
    simp only [go_sem]
    simp only [↓bO, go_sem, seval, Tok.cells, rC, hj0]
    refine y0 _ ?_
    try clear y0 Y0
    refine AWp_ret ?_
    try simp only [thenQ, blockQ, noGotoQ, retQ, aRes, tupOf, bS, bA, aLoad, getO, pack, bL, Nat.reduceAdd, Nat.reduceLeDiff, Nat.reduceEqDiff, ↓reduceIte, ti28, tyX, Tok.cells, List.length_map, rC, hj0]
    rw [rdP_none, if_neg hd, hj]
    rw [arP, if_pos hj0, if_neg (by simp [hD]), hj0]
    refine ⟨_, _, ⟨rfl, rfl⟩, .data (Ty.dataAgg _), rUnd (by omega) _ _ _ _, ?_, ?_, by omega⟩
    · first | exact Le.refl _ | (simp only [zTy, Ty.cells_eq, Ty.k, Ty.n, Ty.ps, List.map_cons, List.map_nil]; exact Le.refl _)
    · exact ⟨2, rfl, rfl⟩
  ·
   simp only [List.set_cons_zero, List.set_cons_succ]
   have hj0 : ¬ j.2.2 = 0 := by simpa using hc46
   iterate 2 (refine aops_chunk 1 fun Q0 q0 => ?_; simp only [↓bO, go_sem, seval, Tok.cells, rC]; refine q0 _ ?_; clear q0 Q0; simp only [go_sem])
   simp only [↓bO, go_sem, seval, Tok.cells, rC]
   refine y1 _ ?_
   try clear y1 Y1
   refine AWp_cond (b := false) (by first | exact rfl | exact congrArg (fun b => AV.v (.bool b)) hb49) (fun h => (by cases h)) (fun _ => ?_)
   refine AWp_skip ?_
   try simp only [thenQ, blockQ, noGotoQ]
   refine y0 _ ?_
   try clear y0 Y0
   refine AWp_seqK fun Y0 y0 => ?_
   refine AWp_region ?_
   refine aops_chunk 1 fun Q0 q0 => ?_
   simp only [↓bO, go_sem, seval, Tok.cells, rC]
   refine q0 _ ?_
   clear q0 Q0
   simp only [go_sem]
   simp only [↓bO, go_sem, seval, Tok.cells, rC]
   refine y0 _ ?_
   try clear y0 Y0
   refine AWp_ret ?_
   try simp only [thenQ, blockQ, noGotoQ, retQ, aRes, tupOf, bS, bA, aLoad, getO, pack, bL, Nat.reduceAdd, Nat.reduceLeDiff, Nat.reduceEqDiff, ↓reduceIte, ti28, tyX, Tok.cells, List.length_map, rC]
   rw [rdP_none, if_neg hd, hj]
   rw [arP, if_neg hj0]
   refine ⟨_, _, ⟨rfl, rfl⟩, .data (Ty.dataAgg _), rUnd (by omega) _ _ _ _, ?_, ?_, by omega⟩
   · first | exact Le.refl _ | (simp only [zTy, Ty.cells_eq, Ty.k, Ty.n, Ty.ps, List.map_cons, List.map_nil]; exact Le.refl _)
   · exact ⟨2, rfl, rfl⟩
theorem whole_c (l : List Tok) (m : Int) (hl : l.length ≤ 1048576) : ∀ f, WholeOk l m f := by
  intro f
  induction f using Nat.strongRecOn with
  | _ f ih =>
    intro i lv hi hlv hlv2
    match f, ih, hi with
    | 0, _, hi => omega
    | f + 1, ih, hi => exact whole_s l m hl f (fun g hg => ih g (by omega)) i lv hi hlv hlv2
theorem zTy_le : Le (.agg [.v (.int .i64 0), .v (.int .i64 0), .v (.slice none 0 0)]) (.agg zTy.cells) := by
  rw [zTy, Ty.cells_eq]; exact Le.agg ⟨.refl _, .refl _, Le.slNil 3, trivial⟩
abbrev rdF (l : List Tok) (m i lv : Int) : Ty × Int × Int := rd l m (l.length + 1) none i lv
theorem rdF_lt (l : List Tok) (i : Int) : lft l i < l.length + 1 := by have := lft_len l i; omega
theorem rdP_eq {l : List Tok} {m : Int} {f : Nat} {i lv : Int} (h : (rdP l m f none i lv).2.2 = 0) : rdP l m f none i lv = rd l m f none i lv :=
  (rdP_rd l m f none i lv (fun ps h => by cases h)).2 (by rw [← rdP_pos]; exact h)
theorem Ty.sameL_refl : ∀ ps : List Ty, (∀ p ∈ ps, p.same p = true) → Ty.sameL ps ps = true := fun ps h => by
  induction ps with
  | nil => rfl
  | cons p ps ih => rw [Ty.sameL, h p (by simp), ih fun q hq => h q (by simp [hq])]; rfl
theorem Ty.same_refl : ∀ t : Ty, t.same t = true := by
  refine Ty.ind fun t ih => ?_
  cases t with
  | mk k n ps => rw [Ty.same, Ty.sameL_refl ps ih]; simp
theorem Read_pure (l : List Tok) (m i lv : Int) (hl : l.length ≤ 100000) (hlv : -1000000 ≤ lv) (hlv2 : lv ≤ 800000) : APure Tryd.prog 9 [.sl 4 (l.map Tok.cells), .v (.int .i64 i), .v (.int .i64 lv), .v (.int .i64 m)] (.tup [.agg (rdF l m i lv).1.cells, .v (.int .i64 (rdF l m i lv).2.1), .v (.int .i64 (rdF l m i lv).2.2)]) := by
  refine APure.mkL (.cons (Tok.dataSl l) (.cons (.v _) (.cons (.v _) (.cons (.v _) .nil)))) (.tup (.cons (Ty.dataAgg _) (.cons (.v _) (.cons (.v _) .nil)))) ?_
  refine ACalls_intro Tryd.func9 (by kernel_rfl) rfl (by rw [Tryd.ntmps9]; simp) (fun hm => ?_)
  simp only [Tryd.ntmps9, Tryd.results9, List.length_cons, List.length_nil, Nat.reduceAdd, Nat.reduceSub, List.replicate_succ, List.replicate_zero, List.cons_append, List.nil_append]
  refine AWp_seqK fun Y0 y0 => ?_
  refine AWp_region ?_
  iterate 2 (refine aops_chunk 1 fun Q0 q0 => ?_; simp only [↓bO, go_sem, seval, Tok.cells, rC]; refine q0 _ ?_; clear q0 Q0; simp only [go_sem])
  simp only [↓bO, go_sem, seval, Tok.cells, rC]
  refine y0 _ ?_
  try clear y0 Y0
  refine AWp_seqK fun Y0 y0 => ?_
  refine AWp_region ?_
  iterate 5 (refine aops_chunk 1 fun Q0 q0 => ?_; simp only [↓bO, go_sem, seval, Tok.cells, rC]; refine q0 _ ?_; clear q0 Q0; simp only [go_sem])
  simp only [↓bO, go_sem, seval, Tok.cells, rC]
  refine y0 _ ?_
  try clear y0 Y0
  refine AWp_seqK fun Y0 y0 => ?_
  refine AWp_region ?_
  iterate 2 (refine aops_chunk 1 fun Q0 q0 => ?_; simp only [↓bO, go_sem, seval, Tok.cells, rC]; refine q0 _ ?_; clear q0 Q0; simp only [go_sem])
  refine aops_chunk 1 fun Q0 q0 => ?_
  simp only [↓bO, go_sem, seval, Tok.cells, rC]
  refine RCalls.at (k := 1) (whole_c l m (by omega) (l.length + 1) i lv (rdF_lt l i) hlv (by have := lft_len l i; omega)) ?_ (Ty.dataAgg _) rfl (by first | omega | (simp only; omega)) ?_
  · exact ⟨.ptr rfl, .v _, trivial⟩
  simp only [putO, Nat.reduceEqDiff, ↓reduceIte]
  try simp only [bS, bA, thenQ, blockQ, noGotoQ]
  refine q0 _ ?_
  clear q0 Q0
  simp only [go_sem]
  refine aops_chunk 1 fun Q0 q0 => ?_
  simp only [↓bO, go_sem, seval, Tok.cells, rC]
  refine q0 _ ?_
  clear q0 Q0
  simp only [go_sem]
  simp only [↓bO, go_sem, seval, Tok.cells, rC]
  refine y0 _ ?_
  try clear y0 Y0
  refine AWp_seqK fun Y0 y0 => ?_
  refine AWp_seqK fun Y1 y1 => ?_
  refine AWp_region ?_
  iterate 4 (refine aops_chunk 1 fun Q0 q0 => ?_; simp only [↓bO, go_sem, seval, Tok.cells, rC]; refine q0 _ ?_; clear q0 Q0; simp only [go_sem])
  simp only [↓bO, go_sem, seval, Tok.cells, rC]
  refine y1 _ ?_
  try clear y1 Y1
  refine AWp_cond rfl (fun hb25 => ?_) (fun hb25 => ?_)
  ·
   have he : ¬ (rdP l m (l.length + 1) none i lv).2.2 = 0 := by simpa using hb25
   refine AWp_seqK fun Y1 y1 => ?_
   refine AAny_start [(1, 1, [.v (.int .i64 (rdP l m (l.length + 1) none i lv).2.1)]), (1, 3, [.v (.int .i64 (rdP l m (l.length + 1) none i lv).2.2)])] 12 rfl mixed (⟨⟨_, _, rfl, by simp, rfl, trivial, trivial⟩, ⟨⟨_, _, rfl, by simp, rfl, trivial, trivial⟩, trivial⟩⟩) rfl ?_
   dsimp only
   refine AAny_takeK 1 rfl (by kernel_rfl) (by kernel_rfl) (by kernel_rfl) (fun _ _ h => h) fun Q0 q0 => ?_
   simp only [↓bO, go_sem, seval, Tok.cells, rC]
   refine q0 _ ?_
   clear q0 Q0
   refine AAny_takeK 2 rfl (by kernel_rfl) (by kernel_rfl) (by kernel_rfl) (fun _ _ h => h) fun Q0 q0 => ?_
   simp only [↓bO, go_sem, seval, Tok.cells, rC]
   refine q0 _ ?_
   clear q0 Q0
   refine AAny_takeK 3 rfl (by kernel_rfl) (by kernel_rfl) (by kernel_rfl) (fun _ _ h => h) fun Q0 q0 => ?_
   simp only [↓bO, go_sem, seval, Tok.cells, rC]
   refine q0 _ ?_
   clear q0 Q0
   refine AAny_loadK 4 0 rfl rfl (by kernel_rfl) (by kernel_rfl) (by kernel_rfl) (fun _ _ h => h) fun Q0 q0 => ?_
   simp only [↓bO, go_sem, seval, Tok.cells, rC]
   refine q0 _ ?_
   clear q0 Q0
   refine AAny_takeK 5 rfl (by kernel_rfl) (by kernel_rfl) (by kernel_rfl) (fun _ _ h => h) fun Q0 q0 => ?_
   simp only [↓bO, go_sem, seval, Tok.cells, rC]
   refine q0 _ ?_
   clear q0 Q0
   refine AAny_takeK 6 rfl (by kernel_rfl) (by kernel_rfl) (by kernel_rfl) (fun _ _ h => h) fun Q0 q0 => ?_
   simp only [↓bO, go_sem, seval, Tok.cells, rC]
   refine q0 _ ?_
   clear q0 Q0
   refine AAny_takeK 7 rfl (by kernel_rfl) (by kernel_rfl) (by kernel_rfl) (fun _ _ h => h) fun Q0 q0 => ?_
   simp only [↓bO, go_sem, seval, Tok.cells, rC]
   refine q0 _ ?_
   clear q0 Q0
   refine AAny_loadK 8 1 rfl rfl (by kernel_rfl) (by kernel_rfl) (by kernel_rfl) (fun _ _ h => h) fun Q0 q0 => ?_
   simp only [↓bO, go_sem, seval, Tok.cells, rC]
   refine q0 _ ?_
   clear q0 Q0
   refine AAny_all1 (i := 0) (by kernel_rfl) ?_
   ·
    refine aAt_op rfl rfl fun Q0 q0 => ?_
    simp only [↓bO, go_sem, seval, Tok.cells, rC]
    refine q0 _ ⟨⟨⟨_, _, rfl, by simp, rfl, trivial, trivial⟩, ⟨⟨_, _, rfl, by simp, rfl, trivial, trivial⟩, trivial⟩⟩, ?_⟩
    clear q0 Q0
    refine AAny_all1 (i := 9) (by kernel_rfl) ?_
    ·
     refine aAt_op rfl rfl fun Q0 q0 => ?_
     simp only [↓bO, go_sem, seval, Tok.cells, rC]
     refine q0 _ ⟨⟨⟨_, _, rfl, by simp, rfl, trivial, trivial⟩, ⟨⟨_, _, rfl, by simp, rfl, trivial, trivial⟩, trivial⟩⟩, ?_⟩
     clear q0 Q0
     refine AAny_takeK 10 rfl (by kernel_rfl) (by kernel_rfl) (by kernel_rfl) (fun _ _ h => h) fun Q0 q0 => ?_
     simp only [↓bO, go_sem, seval, Tok.cells, rC]
     refine q0 _ ?_
     clear q0 Q0
     refine AAny_takeK 11 rfl (by kernel_rfl) (by kernel_rfl) (by kernel_rfl) (fun _ _ h => h) fun Q0 q0 => ?_
     simp only [↓bO, go_sem, seval, Tok.cells, rC]
     refine q0 _ ?_
     clear q0 Q0
     refine AAny_done (by kernel_rfl) ?_
     simp only [thenQ, blockQ, noGotoQ]
     refine y1 _ ?_
     try clear y1 Y1
     refine AWp_ret ?_
     try simp only [thenQ, blockQ, noGotoQ, retQ, aRes, tupOf, bS, bA, aLoad, getO, pack, bL, Nat.reduceAdd, Nat.reduceLeDiff, Nat.reduceEqDiff, ↓reduceIte, ti28, tyX, Tok.cells, List.length_map, rC]
     have hz := rd_err l m (l.length + 1) none i lv (by rw [← rdP_pos]; exact he)
     have hp := rdP_pos l m (l.length + 1) i lv
     simp only [rdF, hz, ← hp]
     exact Le.tup ⟨zTy_le, .refl _, .refl _, trivial⟩
  ·
   have he : (rdP l m (l.length + 1) none i lv).2.2 = 0 := by simpa using hb25
   refine AWp_skip ?_
   try simp only [thenQ, blockQ, noGotoQ]
   refine y0 _ ?_
   try clear y0 Y0
   refine AWp_seqK fun Y0 y0 => ?_
   refine AAny_start [(1, 1, [.v (.int .i64 (rdP l m (l.length + 1) none i lv).2.1)])] 8 rfl mixed (⟨⟨_, _, rfl, by simp, rfl, trivial, trivial⟩, trivial⟩) rfl ?_
   dsimp only
   refine AAny_takeK 1 rfl (by kernel_rfl) (by kernel_rfl) (by kernel_rfl) (fun _ _ h => h) fun Q0 q0 => ?_
   simp only [↓bO, go_sem, seval, Tok.cells, rC]
   refine q0 _ ?_
   clear q0 Q0
   refine AAny_takeK 2 rfl (by kernel_rfl) (by kernel_rfl) (by kernel_rfl) (fun _ _ h => h) fun Q0 q0 => ?_
   simp only [↓bO, go_sem, seval, Tok.cells, rC]
   refine q0 _ ?_
   clear q0 Q0
   refine AAny_takeK 3 rfl (by kernel_rfl) (by kernel_rfl) (by kernel_rfl) (fun _ _ h => h) fun Q0 q0 => ?_
   simp only [↓bO, go_sem, seval, Tok.cells, rC]
   refine q0 _ ?_
   clear q0 Q0
   refine AAny_loadK 4 0 rfl rfl (by kernel_rfl) (by kernel_rfl) (by kernel_rfl) (fun _ _ h => h) fun Q0 q0 => ?_
   simp only [↓bO, go_sem, seval, Tok.cells, rC]
   refine q0 _ ?_
   clear q0 Q0
   refine AAny_all1 (i := 0) (by kernel_rfl) ?_
   ·
    refine aAt_op rfl rfl fun Q0 q0 => ?_
    simp only [↓bO, go_sem, seval, Tok.cells, rC]
    refine q0 _ ⟨⟨⟨_, _, rfl, by simp, rfl, trivial, trivial⟩, trivial⟩, ?_⟩
    clear q0 Q0
    refine AAny_all1 (i := 5) (by kernel_rfl) ?_
    ·
     refine aAt_op rfl rfl fun Q0 q0 => ?_
     simp only [↓bO, go_sem, seval, Tok.cells, rC]
     refine q0 _ ⟨⟨⟨_, _, rfl, by simp, rfl, trivial, trivial⟩, trivial⟩, ?_⟩
     clear q0 Q0
     refine AAny_takeK 6 rfl (by kernel_rfl) (by kernel_rfl) (by kernel_rfl) (fun _ _ h => h) fun Q0 q0 => ?_
     simp only [↓bO, go_sem, seval, Tok.cells, rC]
     refine q0 _ ?_
     clear q0 Q0
     refine AAny_takeK 7 rfl (by kernel_rfl) (by kernel_rfl) (by kernel_rfl) (fun _ _ h => h) fun Q0 q0 => ?_
     simp only [↓bO, go_sem, seval, Tok.cells, rC]
     refine q0 _ ?_
     clear q0 Q0
     refine AAny_done (by kernel_rfl) ?_
     simp only [thenQ, blockQ, noGotoQ]
     refine y0 _ ?_
     try clear y0 Y0
     refine AWp_ret ?_
     try simp only [thenQ, blockQ, noGotoQ, retQ, aRes, tupOf, bS, bA, aLoad, getO, pack, bL, Nat.reduceAdd, Nat.reduceLeDiff, Nat.reduceEqDiff, ↓reduceIte, ti28, tyX, Tok.cells, List.length_map, rC]
     have hp := rdP_eq he
     simp only [rdF, ← hp, he]
     exact Le.refl _
theorem aw4_read2 : rdF aw4T 9 0 1 = (aw4Y, 7, 0) := by rfl
theorem aw4_read_pure : APure Tryd.prog 9 [.sl 4 (aw4T.map Tok.cells), .v (.int .i64 0), .v (.int .i64 1), .v (.int .i64 9)] (.tup [.agg aw4Y.cells, .v (.int .i64 7), .v (.int .i64 0)]) := by
  have h := Read_pure aw4T 9 0 1 (by decide) (by decide) (by decide)
  rw [aw4_read2] at h; exact h
theorem aw4_print2 : APure Tryd.prog 16 [.agg aw4Y.cells] (.v (.string aw4S)) := by rw [aw4_cells]; exact aw4_print
theorem awake4_pure : APure Tryd.prog 8 [] (.v (.bool true)) := by
  refine APure.mkL (.nil) (.v _) ?_
  refine ACalls_intro Tryd.func8 (by kernel_rfl) rfl (by rw [Tryd.ntmps8]; simp) (fun hm => ?_)
  simp only [Tryd.ntmps8, Tryd.results8, List.length_cons, List.length_nil, Nat.reduceAdd, Nat.reduceSub, List.replicate_succ, List.replicate_zero, List.cons_append, List.nil_append]
  refine AWp_seqK fun Y0 y0 => ?_
  refine AWp_region ?_
  simp only [↓bO, go_sem, seval, Tok.cells]
  refine y0 _ ?_
  try clear y0 Y0
  refine AWp_seqK fun Y0 y0 => ?_
  refine AWp_region ?_
  refine aops_chunk 1 fun Q0 q0 => ?_
  simp only [↓bO, go_sem, seval, Tok.cells]
  refine APure.call (aw4_words) ?_
  try simp only [bS, bA, thenQ, blockQ, noGotoQ]
  iterate 6 (refine q0 _ ?_; clear q0 Q0; simp only [go_sem]; refine aops_chunk 1 fun Q0 q0 => ?_; simp only [↓bO, go_sem, seval, Tok.cells])
  refine q0 _ ?_
  clear q0 Q0
  simp only [go_sem]
  simp only [↓bO, go_sem, seval, Tok.cells]
  refine y0 _ ?_
  try clear y0 Y0
  refine AWp_seqK fun Y0 y0 => ?_
  refine AWp_region ?_
  refine aops_chunk 1 fun Q0 q0 => ?_
  simp only [↓bO, go_sem, seval, Tok.cells]
  refine q0 _ ?_
  clear q0 Q0
  simp only [go_sem]
  refine aops_chunk 1 fun Q0 q0 => ?_
  simp only [↓bO, go_sem, seval, Tok.cells]
  refine APure.call (aw4_read_pure) ?_
  try simp only [bS, bA, thenQ, blockQ, noGotoQ]
  iterate 7 (refine q0 _ ?_; clear q0 Q0; simp only [go_sem]; refine aops_chunk 1 fun Q0 q0 => ?_; simp only [↓bO, go_sem, seval, Tok.cells])
  refine q0 _ ?_
  clear q0 Q0
  simp only [go_sem]
  simp only [↓bO, go_sem, seval, Tok.cells]
  refine y0 _ ?_
  try clear y0 Y0
  refine AWp_seqK fun Y0 y0 => ?_
  refine AWp_region ?_
  iterate 3 (refine aops_chunk 1 fun Q0 q0 => ?_; simp only [↓bO, go_sem, seval, Tok.cells]; refine q0 _ ?_; clear q0 Q0; simp only [go_sem])
  refine aops_case 20 rfl (fun hc20 => ?_) (fun hc20 => ?_)
  ·
   simp only [List.set_cons_zero, List.set_cons_succ]
   iterate 4 (refine aops_chunk 1 fun Q0 q0 => ?_; simp only [↓bO, go_sem, seval, Tok.cells]; refine q0 _ ?_; clear q0 Q0; simp only [go_sem])
   refine aops_case 24 rfl (fun hc24 => ?_) (fun hc24 => ?_)
   ·
    simp only [List.set_cons_zero, List.set_cons_succ]
    iterate 4 (refine aops_chunk 1 fun Q0 q0 => ?_; simp only [↓bO, go_sem, seval, Tok.cells]; refine q0 _ ?_; clear q0 Q0; simp only [go_sem])
    refine aops_case 28 rfl (fun hc28 => ?_) (fun hc28 => ?_)
    ·
     simp only [List.set_cons_zero, List.set_cons_succ]
     refine aops_chunk 1 fun Q0 q0 => ?_
     simp only [↓bO, go_sem, seval, Tok.cells]
     refine q0 _ ?_
     clear q0 Q0
     simp only [go_sem]
     refine aops_chunk 1 fun Q0 q0 => ?_
     simp only [↓bO, go_sem, seval, Tok.cells]
     refine APure.call (aw4_print2) ?_
     try simp only [bS, bA, thenQ, blockQ, noGotoQ]
     iterate 2 (refine q0 _ ?_; clear q0 Q0; simp only [go_sem]; refine aops_chunk 1 fun Q0 q0 => ?_; simp only [↓bO, go_sem, seval, Tok.cells])
     refine q0 _ ?_
     clear q0 Q0
     simp only [go_sem]
     simp only [↓bO, go_sem, seval, Tok.cells]
     refine y0 _ ?_
     try clear y0 Y0
     refine AWp_ret ?_
     try simp only [thenQ, blockQ, noGotoQ, retQ, aRes, tupOf, bS, bA]
     refine Le.of_eq (congrArg (fun b => AV.v (.bool b)) ?_)
     first | rfl | decide | kernel_rfl
    ·
     simp only [List.set_cons_zero, List.set_cons_succ]
     exact absurd hc28 (by decide)
   ·
    simp only [List.set_cons_zero, List.set_cons_succ]
    exact absurd hc24 (by decide)
  ·
   simp only [List.set_cons_zero, List.set_cons_succ]
   exact absurd hc20 (by decide)
mutual
def Ty.cnt : Ty → Nat
  | .mk _ _ ps => 1 + Ty.cntL ps
def Ty.cntL : List Ty → Nat
  | [] => 0
  | p :: ps => Ty.cnt p + Ty.cntL ps
end
theorem Ty.cnt_eq (t : Ty) : t.cnt = 1 + Ty.cntL t.ps := by cases t; simp [Ty.cnt, Ty.ps]
theorem Ty.cntL_append : ∀ (ps qs : List Ty), Ty.cntL (ps ++ qs) = Ty.cntL ps + Ty.cntL qs
  | [], qs => by simp [Ty.cntL]
  | p :: ps, qs => by simp [Ty.cntL, Ty.cntL_append ps qs]; omega
theorem Ty.cntL_step {ps : List Ty} {s : Nat} {p : Ty} (hp : ps[s]? = some p) : Ty.cntL (ps.take s) + p.cnt ≤ Ty.cntL ps := by
  have h1 : Ty.cntL (ps.take (s + 1)) = Ty.cntL (ps.take s) + p.cnt := by rw [List.take_add_one, hp, Ty.cntL_append]; simp [Ty.cntL]
  have h2 : Ty.cntL ps = Ty.cntL (ps.take (s + 1)) + Ty.cntL (ps.drop (s + 1)) := by rw [← Ty.cntL_append, List.take_append_drop]
  omega
theorem Ty.cntL_len : ∀ ps, ps.length ≤ Ty.cntL ps
  | [] => by simp
  | p :: ps => by
    have := Ty.cntL_len ps
    have h2 : 1 ≤ p.cnt := by rw [Ty.cnt_eq]; omega
    simp [Ty.cntL]; omega
mutual
def Ty.room : Ty → Int → Nat → Int
  | .mk _ _ _, _, 0 => -1
  | .mk _ _ ps, n, d + 1 => Ty.roomL ps (n - 1) d
def Ty.roomL : List Ty → Int → Nat → Int
  | [], n, _ => n
  | p :: ps, n, d => if n < 0 then n else Ty.roomL ps (Ty.room p n d) d
end
theorem Ty.room_zero (t : Ty) (n : Int) : t.room n 0 = -1 := by cases t; simp [Ty.room]
theorem Ty.room_succ (t : Ty) (n : Int) (d : Nat) : t.room n (d + 1) = Ty.roomL t.ps (n - 1) d := by cases t; simp [Ty.room, Ty.ps]
theorem Ty.roomL_neg : ∀ (ps : List Ty) {n : Int} {d : Nat}, n < 0 → Ty.roomL ps n d = n
  | [], n, d, h => by simp [Ty.roomL]
  | p :: ps, n, d, h => by simp [Ty.roomL, h]
theorem Ty.roomL_append : ∀ (xs bs : List Ty) (n : Int) (d : Nat), Ty.roomL (xs ++ bs) n d = Ty.roomL bs (Ty.roomL xs n d) d
  | [], bs, n, d => by simp [Ty.roomL]
  | x :: xs, bs, n, d => by
    simp only [List.cons_append, Ty.roomL]
    split
    · rename_i h; rw [Ty.roomL_neg bs h]
    · exact Ty.roomL_append xs bs _ d
theorem Ty.room_le : ∀ (t : Ty) (n : Int) (d : Nat), 0 ≤ n → -1 ≤ t.room n d ∧ t.room n d ≤ n - 1 := by
  refine Ty.ind fun t ih => ?_
  have key : ∀ (ps : List Ty), (∀ p ∈ ps, ∀ (n : Int) (d : Nat), 0 ≤ n → -1 ≤ p.room n d ∧ p.room n d ≤ n - 1) → ∀ (n : Int) (d : Nat), -1 ≤ n → -1 ≤ Ty.roomL ps n d ∧ Ty.roomL ps n d ≤ n := by
    intro ps
    induction ps with
    | nil => intro _ n d h; simp [Ty.roomL]; exact h
    | cons p ps ihp =>
      intro hp n d h
      simp only [Ty.roomL]
      split
      · omega
      · have h1 := hp p (by simp) n d (by omega)
        have h2 := ihp (fun q hq => hp q (by simp [hq])) (p.room n d) d h1.1
        omega
  intro n d h
  cases d with
  | zero => rw [Ty.room_zero]; omega
  | succ d =>
    rw [Ty.room_succ]
    have := key t.ps ih (n - 1) d (by omega)
    omega
theorem Ty.roomL_le (ps : List Ty) (n : Int) (d : Nat) (h : -1 ≤ n) : -1 ≤ Ty.roomL ps n d ∧ Ty.roomL ps n d ≤ n := by
  have := Ty.room_le (.mk 0 0 ps) (n + 1) (d + 1) (by omega)
  rw [Ty.room_succ] at this
  simp only [Ty.ps] at this
  rw [show n + 1 - 1 = n by omega] at this
  exact this
theorem Ty.roomL_step {ps : List Ty} {s : Nat} {p : Ty} (hp : ps[s]? = some p) (n : Int) (d : Nat) (h : 0 ≤ Ty.roomL (ps.take s) n d) : Ty.roomL (ps.take (s + 1)) n d = p.room (Ty.roomL (ps.take s) n d) d := by
  rw [List.take_add_one, hp, Ty.roomL_append]
  simp only [Option.toList_some, Ty.roomL]
  rw [if_neg (by omega)]
theorem Ty.roomL_stop (ps : List Ty) (s : Nat) (n : Int) (d : Nat) (h : Ty.roomL (ps.take s) n d < 0) : Ty.roomL ps n d = Ty.roomL (ps.take s) n d := by
  conv => lhs; rw [← List.take_append_drop s ps]
  rw [Ty.roomL_append, Ty.roomL_neg _ h]
theorem room_pure : ∀ (T : Ty) (n : Int) (d : Nat) (hn : 0 ≤ n) (hn2 : n ≤ 1099511627776) (hd : d ≤ 1099511627776), APure Tryd.prog 22 [.agg T.cells, .v (.int .i64 n), .v (.int .i64 d)] (.v (.int .i64 (T.room n d))) := by
  refine Ty.ind fun T ih => ?_
  intro n d hn hn2 hd
  refine APure.mkL (.cons T.dataAgg (.cons (.v _) (.cons (.v _) .nil))) (.v _) ?_
  refine ACalls_intro Tryd.func22 (by kernel_rfl) rfl (by rw [Tryd.ntmps22]; simp) (fun hm => ?_)
  simp only [Tryd.ntmps22, Tryd.results22, List.length_cons, List.length_nil, Nat.reduceAdd, Nat.reduceSub, List.replicate_succ, List.replicate_zero, List.cons_append, List.nil_append]
  have hm1 := hm.wide (t := T) (by simp)
  have hw1 : IntKind.i64.wrap (n - 1) = n - 1 := wrap_in (by omega) (by omega)
  iterate 2 (refine AWp_seqK fun Y0 y0 => ?_; refine AWp_region ?_; simp only [↓bO, go_sem, seval, hw1]; refine y0 _ ?_; (try clear y0 Y0))
  refine AWp_seqK fun Y0 y0 => ?_
  refine AWp_seqK fun Y1 y1 => ?_
  refine AWp_region ?_
  simp only [↓bO, go_sem, seval, hw1]
  refine y1 _ ?_
  try clear y1 Y1
  refine AWp_cond rfl (fun hb11 => ?_) (fun hb11 => ?_)
  ·
   have hd0 : d = 0 := by simpa using hb11
   refine AWp_seqK fun Y1 y1 => ?_
   refine AWp_region ?_
   simp only [↓bO, go_sem, seval, hw1]
   refine y1 _ ?_
   try clear y1 Y1
   refine AWp_ret ?_
   try simp only [thenQ, blockQ, noGotoQ, retQ, aRes, tupOf, bS, bA]
   refine Le.of_eq (congrArg (fun n => AV.v (.int .i64 n)) ?_)
   first | (rw [hd0, Ty.room_zero]; done) | skip
   all_goals (rw [Ty.room_succ]; simp only [decide_eq_false_iff_not] at hb20; rcases Nat.lt_or_ge s T.ps.length with h5 | h5 <;> first | (rw [List.take_of_length_le h5]; done) | (rw [Ty.roomL_stop T.ps s _ _ (by omega)]; done))
  ·
   obtain ⟨e, rfl⟩ : ∃ e, d = e + 1 := ⟨d - 1, by simp at hb11; omega⟩
   have hw2 : IntKind.i64.wrap ((e : Int) + 1 - 1) = (e : Int) := by rw [wrap_in (by omega) (by omega)]; omega
   refine AWp_skip ?_
   try simp only [thenQ, blockQ, noGotoQ]
   refine y0 _ ?_
   try clear y0 Y0
   refine AWp_seqK fun Y0 y0 => ?_
   refine AWp_seqK fun Y1 y1 => ?_
   refine AWp_region ?_
   simp only [↓bO, go_sem, seval, hw1]
   refine y1 _ ?_
   try clear y1 Y1
   refine AWp_block ?_
   refine AWp_loopM (σ := Nat) (mB 33 142) (fun s => s ≤ T.ps.length) (fun s => [(1, .v (.int .i64 (Ty.roomL (T.ps.take s) (n - 1) e))), (7, .v (.int .i64 (s : Int)))]) (fun s => []) (fun s => T.ps.length - s) 0 (by omega) ?_ (fun s hs => ?_)
   ·
    simp only [maskL, setsL, putsO, putO, mB, List.set_cons_zero, List.set_cons_succ, seval, bL, Ty.roomL]
    exact Weak.mk (by simp only [go_sem, Le.refl, Le.any, Le.slNil, Int.natCast_add, Int.cast_ofNat_Int, Int.natCast_one]) (fun _ _ h => h) rfl rfl
   simp only [maskL, setsL, putsO, putO, mB, List.set_cons_zero, List.set_cons_succ, seval]
   refine AWp_seqK fun Y1 y1 => ?_
   refine AWp_joinM (mB 33 1048718) ([(20, .v (.bool (decide (s < T.ps.length ∧ 0 ≤ Ty.roomL (T.ps.take s) (n - 1) e))))]) ([]) ?_ ?_
   ·
    refine AWp_region ?_
    refine aops_chunk 4 fun Q0 q0 => ?_
    simp only [↓bO, go_sem, seval, hw1]
    refine q0 _ ?_
    clear q0 Q0
    simp only [go_sem]
    refine aops_chunk 2 fun Q0 q0 => ?_
    simp only [↓bO, go_sem, seval, hw1]
    refine q0 _ ?_
    clear q0 Q0
    simp only [go_sem]
    refine aops_case 17 rfl (fun hc17 => ?_) (fun hc17 => ?_)
    ·
     simp only [List.set_cons_zero, List.set_cons_succ]
     simp only [↓bO, go_sem, seval, hw1]
     try simp only [maskL, setsL, putsO, putO, mB, List.set_cons_zero, List.set_cons_succ, seval]
     refine Weak.mk ?_ (fun _ _ h => h) rfl rfl
     simp only [go_sem, Le.refl, Le.any]
     all_goals (refine Le.of_eq (congrArg (fun b => AV.v (.bool b)) ?_); rw [Bool.eq_iff_iff]; simp only [decide_eq_true_eq, decide_eq_false_iff_not, ge_iff_le, Bool.false_eq_true, false_iff, Int.ofNat_lt] at *; omega)
    ·
     simp only [List.set_cons_zero, List.set_cons_succ]
     simp only [↓bO, go_sem, seval, hw1]
     try simp only [maskL, setsL, putsO, putO, mB, List.set_cons_zero, List.set_cons_succ, seval]
     refine Weak.mk ?_ (fun _ _ h => h) rfl rfl
     simp only [go_sem, Le.refl, Le.any]
     all_goals (refine Le.of_eq (congrArg (fun b => AV.v (.bool b)) ?_); rw [Bool.eq_iff_iff]; simp only [decide_eq_true_eq, decide_eq_false_iff_not, ge_iff_le, Bool.false_eq_true, false_iff, Int.ofNat_lt] at *; omega)
   simp only [maskL, setsL, putsO, putO, mB, List.set_cons_zero, List.set_cons_succ, seval]
   refine AWp_cond rfl (fun hb20 => ?_) (fun hb20 => ?_)
   ·
    have hk : s < T.ps.length := by simp only [decide_eq_true_eq] at hb20; exact hb20.1
    obtain ⟨p, hp⟩ : ∃ p, T.ps[s]? = some p := ⟨_, List.getElem?_eq_getElem hk⟩
    have hw : IntKind.i64.wrap ((s : Int) + 1) = (s : Int) + 1 := wrap_in (by omega) (by have := hm1.len; simp only [maxLen] at this; omega)
    have hrm : 0 ≤ Ty.roomL (T.ps.take s) (n - 1) e := by simp only [decide_eq_true_eq] at hb20; exact hb20.2
    have hrl := Ty.roomL_le (T.ps.take s) (n - 1) e (by omega)
    refine AWp_skip ?_
    try simp only [thenQ, blockQ, noGotoQ]
    refine y1 _ ?_
    try clear y1 Y1
    refine AWp_seqK fun Y1 y1 => ?_
    refine AWp_block ?_
    refine AWp_region ?_
    iterate 2 (refine aops_chunk 4 fun Q0 q0 => ?_; simp only [↓bO, go_sem, seval, hw1, hk, gM hp, Int.natCast_add, hw, Ty.roomL_step hp (n - 1) e hrm, hw2]; refine q0 _ ?_; clear q0 Q0; simp only [go_sem])
    refine aops_chunk 1 fun Q0 q0 => ?_
    simp only [↓bO, go_sem, seval, hw1, hk, gM hp, Int.natCast_add, hw, Ty.roomL_step hp (n - 1) e hrm, hw2]
    refine APure.call (ih p (List.mem_of_getElem? hp) _ e hrm (by omega) (by omega)) ?_
    try simp only [bS, bA, thenQ, blockQ, noGotoQ]
    refine q0 _ ?_
    clear q0 Q0
    simp only [go_sem]
    simp only [↓bO, go_sem, seval, hw1, hk, gM hp, Int.natCast_add, hw, Ty.roomL_step hp (n - 1) e hrm, hw2]
    refine y1 _ ?_
    try clear y1 Y1
    refine AWp_region ?_
    simp only [↓bO, go_sem, seval, hw1, hk, gM hp, Int.natCast_add, hw, Ty.roomL_step hp (n - 1) e hrm, hw2]
    refine ⟨(s + 1), (by omega), by omega, ?_⟩
    simp only [maskL, setsL, putsO, putO, mB, List.set_cons_zero, List.set_cons_succ, seval, hk, gM hp, Int.natCast_add, Int.natCast_one, hw, Ty.roomL_step hp (n - 1) e hrm, hw2]
    exact Weak.mk (by simp only [go_sem, Le.refl, Le.any, Le.slNil, Int.natCast_add, Int.cast_ofNat_Int, Int.natCast_one]) (fun _ _ h => h) rfl rfl
   ·
    refine AWp_exit ?_
    simp only [thenQ, blockQ, noGotoQ, bA, Nat.reduceEqDiff, ↓reduceIte]
    refine y0 _ ?_
    try clear y0 Y0
    refine AWp_seqK fun Y0 y0 => ?_
    refine AWp_region ?_
    simp only [↓bO, go_sem, seval, hw1]
    refine y0 _ ?_
    try clear y0 Y0
    refine AWp_ret ?_
    try simp only [thenQ, blockQ, noGotoQ, retQ, aRes, tupOf, bS, bA]
    refine Le.of_eq (congrArg (fun n => AV.v (.int .i64 n)) ?_)
    first | (rw [hd0, Ty.room_zero]; done) | skip
    all_goals (rw [Ty.room_succ]; simp only [decide_eq_false_iff_not] at hb20; rcases Nat.lt_or_ge s T.ps.length with h5 | h5 <;> first | (rw [List.take_of_length_le h5]; done) | (rw [Ty.roomL_stop T.ps s _ _ (by omega)]; done))
abbrev intC (x : Int) : List AV := [.v (.int .i64 x)]
theorem dataInts (l : List Int) : Data (.sl 1 (l.map intC)) := .sl fun x hx => by
  obtain ⟨y, _, rfl⟩ := List.mem_map.1 hx
  exact .cons (.v _) .nil
theorem ints_one (l : List Int) : ((l.map intC).all fun y => y.all AV.one) = true := by
  rw [List.all_eq_true]
  intro y hy
  obtain ⟨r, _, rfl⟩ := List.mem_map.1 hy
  rfl
theorem und_ints {n : Nat} {l : List Int} : Und n (.sl 1 (l.map intC)) := .data (dataInts l)
structure RNode where
  t : Ty
  parts : List Int
def RNode.cells (r : RNode) : List AV := [.v (.int .i64 r.t.k), .v (.int .i64 r.t.n), .sl 3 (r.t.ps.map Ty.cells), .sl 1 (r.parts.map intC)]
def addV (l : List Int) (n : Int) : List Int := if l.any (fun x => x == n) then l else l ++ [n]
mutual
def Ty.rvars : Ty → List Int → List Int
  | .mk k n ps, l => Ty.rvarsL ps (if k = 1 then addV l n else l)
def Ty.rvarsL : List Ty → List Int → List Int
  | [], l => l
  | p :: ps, l => Ty.rvarsL ps (Ty.rvars p l)
end
theorem Ty.rvars_eq (t : Ty) (l : List Int) : t.rvars l = Ty.rvarsL t.ps (if t.k = 1 then addV l t.n else l) := by cases t; rw [Ty.rvars]; rfl
theorem Ty.rvarsL_append : ∀ (ps qs : List Ty) (l : List Int), Ty.rvarsL (ps ++ qs) l = Ty.rvarsL qs (Ty.rvarsL ps l)
  | [], qs, l => by simp [Ty.rvarsL]
  | p :: ps, qs, l => by simp [Ty.rvarsL, Ty.rvarsL_append ps qs]
theorem Ty.rvarsL_step {ps : List Ty} {s : Nat} {p : Ty} (hp : ps[s]? = some p) (l : List Int) : Ty.rvarsL (ps.take (s + 1)) l = p.rvars (Ty.rvarsL (ps.take s) l) := by
  rw [List.take_add_one, hp, Ty.rvarsL_append]; simp [Ty.rvarsL]
theorem addV_cases (k n : Int) (l : List Int) : (k = 1 → (l.any fun x => x == n) = false → (if k = 1 then addV l n else l) = l ++ [n]) ∧ ((l.any fun x => x == n) = true → (if k = 1 then addV l n else l) = l) ∧ (¬ k = 1 → (if k = 1 then addV l n else l) = l) := by
  refine ⟨fun h1 h2 => ?_, fun h1 => ?_, fun h1 => ?_⟩
  · rw [if_pos h1, addV, if_neg (by rw [h2]; simp)]
  · split
    · rw [addV, if_pos h1]
    · rfl
  · rw [if_neg h1]
theorem addV_len (l : List Int) (n : Int) : (addV l n).length ≤ l.length + 1 := by unfold addV; split <;> simp
theorem Ty.rvars_len : ∀ (t : Ty) (l : List Int), (t.rvars l).length ≤ l.length + t.cnt := by
  refine Ty.ind fun t ih => ?_
  have key : ∀ ps : List Ty, (∀ p ∈ ps, ∀ l : List Int, (p.rvars l).length ≤ l.length + p.cnt) → ∀ l : List Int, (Ty.rvarsL ps l).length ≤ l.length + Ty.cntL ps := by
    intro ps
    induction ps with
    | nil => intro _ l; simp [Ty.rvarsL, Ty.cntL]
    | cons p ps ihp =>
      intro hp l
      have h1 := hp p (by simp) l
      have h2 := ihp (fun q hq => hp q (by simp [hq])) (p.rvars l)
      simp only [Ty.rvarsL, Ty.cntL]; omega
  intro l
  rw [Ty.rvars_eq, Ty.cnt_eq]
  have := key t.ps ih (if t.k = 1 then addV l t.n else l)
  have h2 : (if t.k = 1 then addV l t.n else l).length ≤ l.length + 1 := by split <;> first | exact addV_len l t.n | omega
  omega
theorem Ty.rvarsL_len (ps : List Ty) (l : List Int) : (Ty.rvarsL ps l).length ≤ l.length + Ty.cntL ps := by
  have := Ty.rvars_len (.mk 0 0 ps) l
  rw [Ty.rvars_eq, Ty.cnt_eq] at this
  induction ps generalizing l with
  | nil => simp [Ty.rvarsL, Ty.cntL]
  | cons p ps ih =>
    have h1 := p.rvars_len l
    have h2 := ih (p.rvars l) (by have := Ty.rvars_len (.mk 0 0 ps) (p.rvars l); rw [Ty.rvars_eq, Ty.cnt_eq] at this; exact this)
    simp only [Ty.rvarsL, Ty.cntL]; omega
structure Bd where
  v : Int
  t : Ty
def Bd.cells (b : Bd) : List AV := .v (.int .i64 b.v) :: b.t.cells
def bfind (l : List Bd) (n : Int) : Int := idxI (fun b => b.v == n) l
mutual
/-- what a substitution makes of a type -/
def Ty.sub (l : List Bd) : Ty → Ty
  | .mk k n ps => if k = 1 ∧ 0 ≤ bfind l n then ((l[(bfind l n).toNat]?).map Bd.t).getD (.mk 0 0 []) else .mk k n (Ty.subL l ps)
def Ty.subL (l : List Bd) : List Ty → List Ty
  | [] => []
  | p :: ps => Ty.sub l p :: Ty.subL l ps
end
theorem In_pure (l : List Int) (n : Int) : APure Tryd.prog 23 [.sl 1 (l.map intC), .v (.int .i64 n)] (.v (.bool (l.any fun x => x == n))) := by
  refine APure.mkL (.cons (dataInts l) (.cons (.v _) .nil)) (.v _) ?_
  refine ACalls_intro Tryd.func23 (by kernel_rfl) rfl (by rw [Tryd.ntmps23]; simp) (fun hm => ?_)
  simp only [Tryd.ntmps23, Tryd.results23, List.length_cons, List.length_nil, Nat.reduceAdd, Nat.reduceSub, List.replicate_succ, List.replicate_zero, List.cons_append, List.nil_append]
  have hm1 := hm.len (sz := 1) (xs := l.map intC) (by simp)
  rw [List.length_map] at hm1
  refine AWp_seqK fun Y0 y0 => ?_
  refine AWp_region ?_
  simp only [↓bO, go_sem, seval]
  refine y0 _ ?_
  try clear y0 Y0
  refine AWp_seqK fun Y0 y0 => ?_
  refine AWp_seqK fun Y1 y1 => ?_
  refine AWp_region ?_
  simp only [↓bO, go_sem, seval]
  refine y1 _ ?_
  try clear y1 Y1
  refine AWp_block ?_
  refine AWp_loopM (σ := Nat) (mB 18 35) (fun s => s ≤ l.length ∧ ∀ (i : Nat) (p : Int), i < s → l[i]? = some p → (p == n) = false) (fun s => [(5, .v (.int .i64 (s : Int)))]) (fun s => []) (fun s => l.length - s) 0 (⟨by omega, fun i p hi => by omega⟩) ?_ (fun s hs => ?_)
  ·
   simp only [maskL, setsL, putsO, putO, mB, List.set_cons_zero, List.set_cons_succ, seval]
   exact Weak.mk (by simp only [go_sem, Le.refl, Le.any, Le.slNil, Int.natCast_add, Int.cast_ofNat_Int, Int.natCast_one]) (fun _ _ h => h) rfl rfl
  simp only [maskL, setsL, putsO, putO, mB, List.set_cons_zero, List.set_cons_succ, seval]
  refine AWp_seqK fun Y1 y1 => ?_
  refine AWp_seqK fun Y2 y2 => ?_
  refine AWp_region ?_
  simp only [↓bO, go_sem, seval]
  refine y2 _ ?_
  try clear y2 Y2
  refine AWp_cond rfl (fun hb9 => ?_) (fun hb9 => ?_)
  ·
   have hk : s < l.length := by simpa using hb9
   obtain ⟨p, hp⟩ : ∃ p, l[s]? = some p := ⟨_, List.getElem?_eq_getElem hk⟩
   have hw : IntKind.i64.wrap ((s : Int) + 1) = (s : Int) + 1 := wrap_in (by omega) (by simp only [maxLen] at hm1; omega)
   refine AWp_skip ?_
   try simp only [thenQ, blockQ, noGotoQ]
   refine y1 _ ?_
   try clear y1 Y1
   refine AWp_seqK fun Y1 y1 => ?_
   refine AWp_block ?_
   refine AWp_seqK fun Y2 y2 => ?_
   refine AWp_region ?_
   refine aops_chunk 4 fun Q0 q0 => ?_
   simp only [↓bO, go_sem, seval, hk, gM hp, intC, Int.natCast_add, hw]
   refine q0 _ ?_
   clear q0 Q0
   simp only [go_sem]
   simp only [↓bO, go_sem, seval, hk, gM hp, intC, Int.natCast_add, hw]
   refine y2 _ ?_
   try clear y2 Y2
   refine AWp_cond rfl (fun hb17 => ?_) (fun hb17 => ?_)
   ·
    refine AWp_seqK fun Y2 y2 => ?_
    refine AWp_region ?_
    simp only [↓bO, go_sem, seval, hk, gM hp, intC, Int.natCast_add, hw]
    refine y2 _ ?_
    try clear y2 Y2
    refine AWp_ret ?_
    try simp only [thenQ, blockQ, noGotoQ, retQ, aRes, tupOf, bS, bA]
    refine Le.of_eq (congrArg (fun b => AV.v (.bool b)) ?_)
    first | (rw [all_not_of hp (by exact hb17)]; done) | (rw [any_false_of (fun i p hi hp => hs.2 i p (by omega) hp)]; done)
   ·
    refine AWp_skip ?_
    try simp only [thenQ, blockQ, noGotoQ]
    refine y1 _ ?_
    try clear y1 Y1
    refine AWp_region ?_
    simp only [↓bO, go_sem, seval, hk, gM hp, intC, Int.natCast_add, hw]
    refine ⟨(s + 1), ⟨by omega, fun i p' hi h1 => (by rcases Nat.lt_or_ge i s with h3 | h3 <;> first | exact hs.2 i p' h3 h1 | (obtain rfl : i = s := (by omega); rw [hp] at h1; cases h1; exact hb17))⟩, by omega, ?_⟩
    simp only [maskL, setsL, putsO, putO, mB, List.set_cons_zero, List.set_cons_succ, seval, hk, gM hp, intC, Int.natCast_add, Int.natCast_one, hw]
    exact Weak.mk (by simp only [go_sem, Le.refl, Le.any, Le.slNil, Int.natCast_add, Int.cast_ofNat_Int, Int.natCast_one]) (fun _ _ h => h) rfl rfl
  ·
   have hk : s = l.length := by have := hs.1; simp at hb9; omega
   refine AWp_exit ?_
   simp only [thenQ, blockQ, noGotoQ, bA, Nat.reduceEqDiff, ↓reduceIte]
   refine y0 _ ?_
   try clear y0 Y0
   refine AWp_seqK fun Y0 y0 => ?_
   refine AWp_region ?_
   simp only [↓bO, go_sem, seval]
   refine y0 _ ?_
   try clear y0 Y0
   refine AWp_ret ?_
   try simp only [thenQ, blockQ, noGotoQ, retQ, aRes, tupOf, bS, bA]
   refine Le.of_eq (congrArg (fun b => AV.v (.bool b)) ?_)
   first | (rw [all_not_of hp (by exact hb17)]; done) | (rw [any_false_of (fun i p hi hp => hs.2 i p (by omega) hp)]; done)
theorem RVars_pure : ∀ (T : Ty) (l : List Int) (hl : l.length + T.cnt ≤ 1099511627776), APure Tryd.prog 14 [.agg T.cells, .sl 1 (l.map intC)] (.sl 1 ((T.rvars l).map intC)) := by
  refine Ty.ind fun T ih => ?_
  intro l hl
  refine APure.mkL (.cons T.dataAgg (.cons (dataInts l) .nil)) ((dataInts _)) ?_
  refine ACalls_intro Tryd.func14 (by kernel_rfl) rfl (by rw [Tryd.ntmps14]; simp) (fun hm => ?_)
  simp only [Tryd.ntmps14, Tryd.results14, List.length_cons, List.length_nil, Nat.reduceAdd, Nat.reduceSub, List.replicate_succ, List.replicate_zero, List.cons_append, List.nil_append]
  have hcn := T.cnt_eq
  have hcl := Ty.cntL_len T.ps
  simp only [Ty.cells_eq T, List.cons_append, List.nil_append]
  have hl0 : (if T.k = 1 then addV l T.n else l).length ≤ l.length + 1 := by split <;> first | exact addV_len l T.n | omega
  have hb1 : l.length * 8 ≤ 140737488355328 := by omega
  have hb2 : l.length ≤ maxLen := by simp only [maxLen]; omega
  have hb3 : (l.length + 1) * 8 ≤ 140737488355328 := by omega
  have hb4 : l.length + 1 ≤ maxLen := by simp only [maxLen]; omega
  have hon := ints_one l
  refine AWp_seqK fun Y0 y0 => ?_
  refine AWp_region ?_
  simp only [↓bO, go_sem, seval]
  refine y0 _ ?_
  try clear y0 Y0
  refine AWp_joinZ (mB 38 6) ([(1, .sl 1 ((if T.k = 1 then addV l T.n else l).map intC))]) [(0, .cells 28 [.v (.int .i64 T.k), .v (.int .i64 T.n), .sl 3 (T.ps.map Ty.cells)])] 1 (True) ?_ (fun hC => ?_)
  ·
   refine AWp_seqK fun Y0 y0 => ?_
   refine AWp_region ?_
   refine aops_chunk 4 fun Q0 q0 => ?_
   simp only [↓bO, go_sem, seval]
   refine q0 _ ?_
   clear q0 Q0
   simp only [go_sem]
   refine aops_case 9 rfl (fun hc9 => ?_) (fun hc9 => ?_)
   ·
    simp only [List.set_cons_zero, List.set_cons_succ]
    refine aops_chunk 3 fun Q0 q0 => ?_
    simp only [↓bO, go_sem, seval]
    refine q0 _ ?_
    clear q0 Q0
    simp only [go_sem]
    refine aops_chunk 1 fun Q0 q0 => ?_
    simp only [↓bO, go_sem, seval]
    refine APure.call (In_pure l T.n) ?_
    try simp only [bS, bA, thenQ, blockQ, noGotoQ]
    refine q0 _ ?_
    clear q0 Q0
    simp only [go_sem]
    simp only [↓bO, go_sem, seval]
    refine y0 _ ?_
    try clear y0 Y0
    refine AWp_cond rfl (fun hb15 => ?_) (fun hb15 => ?_)
    ·
     refine AAny_start [(0, 1, [.v (.int .i64 T.n)])] 8 rfl mixed (⟨⟨_, _, rfl, by simp, rfl, trivial, trivial⟩, trivial⟩) rfl ?_
     dsimp only
     refine AAny_takeK 1 rfl (by kernel_rfl) (by kernel_rfl) (by kernel_rfl) (fun _ _ h => h) fun Q0 q0 => ?_
     simp only [↓bO, go_sem, seval, hb1, hb2, hb3, hb4, hon]
     refine q0 _ ?_
     clear q0 Q0
     refine AAny_takeK 3 rfl (by kernel_rfl) (by kernel_rfl) (by kernel_rfl) (fun _ _ h => h) fun Q0 q0 => ?_
     simp only [↓bO, go_sem, seval, hb1, hb2, hb3, hb4, hon]
     refine q0 _ ?_
     clear q0 Q0
     refine AAny_loadK 4 0 rfl rfl (by kernel_rfl) (by kernel_rfl) (by kernel_rfl) (fun _ _ h => h) fun Q0 q0 => ?_
     simp only [↓bO, go_sem, seval, hb1, hb2, hb3, hb4, hon]
     refine q0 _ ?_
     clear q0 Q0
     refine AAny_all2 (i := 0) (j := 5) (by kernel_rfl) ?_ ?_
     ·
      refine aAt_op rfl rfl fun Q0 q0 => ?_
      simp only [↓bO, go_sem, seval, ↓bs0_1, ↓bs0_2, ↓bs0_3, ↓bs0_4, ↓bs0_5, ↓bs0_6, ↓bs0_7, ↓bs0_8, ↓bs0_9, ↓bs0_10, ↓bs0_11, ↓bs0_12, hb1, hb2, hb3, hb4, hon]
      refine q0 _ ⟨⟨⟨_, _, rfl, by simp, rfl, trivial, trivial⟩, trivial⟩, ?_⟩
      clear q0 Q0
      refine AAny_all2 (i := 2) (j := 5) (by kernel_rfl) ?_ ?_
      ·
       refine aAt_op rfl rfl fun Q0 q0 => ?_
       simp only [↓bO, go_sem, seval, hb1, hb2, hb3, hb4, hon]
       refine q0 _ ⟨⟨⟨_, _, rfl, by simp, rfl, trivial, trivial⟩, trivial⟩, ?_⟩
       clear q0 Q0
       refine AAny_all1 (i := 5) (by kernel_rfl) ?_
       ·
        refine aAt_op rfl rfl fun Q0 q0 => ?_
        simp only [↓bO, go_sem, seval, ↓bs1_1, ↓bs1_2, ↓bs1_3, ↓bs1_4, ↓bs1_5, ↓bs1_6, ↓bs1_7, ↓bs1_8, ↓bs1_9, ↓bs1_10, ↓bs1_11, ↓bs1_12, hb1, hb2, hb3, hb4, hon]
        refine q0 _ ⟨⟨⟨_, _, rfl, by simp, rfl, trivial, trivial⟩, trivial⟩, ?_⟩
        clear q0 Q0
        refine AAny_all1 (i := 6) (by kernel_rfl) ?_
        ·
         refine aAt_op rfl rfl fun Q0 q0 => ?_
         simp only [↓bO, go_sem, seval, hb1, hb2, hb3, hb4, hon]
         refine q0 _ ⟨⟨⟨_, _, rfl, by simp, rfl, trivial, trivial⟩, trivial⟩, ?_⟩
         clear q0 Q0
         refine AAny_takeK 7 rfl (by kernel_rfl) (by kernel_rfl) (by kernel_rfl) (fun _ _ h => h) fun Q0 q0 => ?_
         simp only [↓bO, go_sem, seval, hb1, hb2, hb3, hb4, hon]
         refine q0 _ ?_
         clear q0 Q0
         refine AAny_done (by kernel_rfl) ?_
         simp only [thenQ, blockQ, noGotoQ]
         try simp only [maskL, setsL, putsO, putO, mB, List.set_cons_zero, List.set_cons_succ, seval]
         first | refine ⟨trivial, ?_⟩ | skip
         have h9 := addV_cases T.k T.n l
         first | (have h9 := h9.1 (by simpa using hc9) (by simpa using hb15); rw [h9]) | (have h9 := h9.2.1 (by simpa using hb15); rw [h9]) | (have h9 := h9.2.2 (by simpa using hc9); rw [h9])
         first | (refine Weak.drops 0 1 rfl rfl (by simp only; omega) (by simp only; omega) ?_ ?_ ?_) | (refine Weak.drops 1 1 rfl rfl (by simp only; omega) (by simp only; omega) ?_ ?_ ?_)
         · simp only [go_sem, Le.refl, Le.any, Le.oslL, List.map_append, List.map_cons, List.map_nil]
         · simp only [UndL, Und.any, Und.v, Und.ptr, und_ints, Nat.zero_lt_succ, Nat.reduceLT, and_self]
         · simp only [UndOs, Ob.Und, UndL, Und.v, Und.tys, Nat.zero_lt_succ, Nat.reduceLT, and_self]
      ·
       refine aAt_op rfl rfl fun Q0 q0 => ?_
       simp only [↓bO, go_sem, seval, ↓bs1_1, ↓bs1_2, ↓bs1_3, ↓bs1_4, ↓bs1_5, ↓bs1_6, ↓bs1_7, ↓bs1_8, ↓bs1_9, ↓bs1_10, ↓bs1_11, ↓bs1_12, hb1, hb2, hb3, hb4, hon]
       refine q0 _ ⟨⟨⟨_, _, rfl, by simp, rfl, trivial, trivial⟩, trivial⟩, ?_⟩
       clear q0 Q0
       refine AAny_all1 (i := 2) (by kernel_rfl) ?_
       ·
        refine aAt_op rfl rfl fun Q0 q0 => ?_
        simp only [↓bO, go_sem, seval, hb1, hb2, hb3, hb4, hon]
        refine q0 _ ⟨⟨⟨_, _, rfl, by simp, rfl, trivial, trivial⟩, trivial⟩, ?_⟩
        clear q0 Q0
        refine AAny_all1 (i := 6) (by kernel_rfl) ?_
        ·
         refine aAt_op rfl rfl fun Q0 q0 => ?_
         simp only [↓bO, go_sem, seval, hb1, hb2, hb3, hb4, hon]
         refine q0 _ ⟨⟨⟨_, _, rfl, by simp, rfl, trivial, trivial⟩, trivial⟩, ?_⟩
         clear q0 Q0
         refine AAny_takeK 7 rfl (by kernel_rfl) (by kernel_rfl) (by kernel_rfl) (fun _ _ h => h) fun Q0 q0 => ?_
         simp only [↓bO, go_sem, seval, hb1, hb2, hb3, hb4, hon]
         refine q0 _ ?_
         clear q0 Q0
         refine AAny_done (by kernel_rfl) ?_
         simp only [thenQ, blockQ, noGotoQ]
         try simp only [maskL, setsL, putsO, putO, mB, List.set_cons_zero, List.set_cons_succ, seval]
         first | refine ⟨trivial, ?_⟩ | skip
         have h9 := addV_cases T.k T.n l
         first | (have h9 := h9.1 (by simpa using hc9) (by simpa using hb15); rw [h9]) | (have h9 := h9.2.1 (by simpa using hb15); rw [h9]) | (have h9 := h9.2.2 (by simpa using hc9); rw [h9])
         first | (refine Weak.drops 0 1 rfl rfl (by simp only; omega) (by simp only; omega) ?_ ?_ ?_) | (refine Weak.drops 1 1 rfl rfl (by simp only; omega) (by simp only; omega) ?_ ?_ ?_)
         · simp only [go_sem, Le.refl, Le.any, Le.oslL, List.map_append, List.map_cons, List.map_nil]
         · simp only [UndL, Und.any, Und.v, Und.ptr, und_ints, Nat.zero_lt_succ, Nat.reduceLT, and_self]
         · simp only [UndOs, Ob.Und, UndL, Und.v, Und.tys, Nat.zero_lt_succ, Nat.reduceLT, and_self]
     ·
      refine aAt_op rfl rfl fun Q0 q0 => ?_
      simp only [↓bO, go_sem, seval, ↓bs1_1, ↓bs1_2, ↓bs1_3, ↓bs1_4, ↓bs1_5, ↓bs1_6, ↓bs1_7, ↓bs1_8, ↓bs1_9, ↓bs1_10, ↓bs1_11, ↓bs1_12, hb1, hb2, hb3, hb4, hon]
      refine q0 _ ⟨⟨⟨_, _, rfl, by simp, rfl, trivial, trivial⟩, trivial⟩, ?_⟩
      clear q0 Q0
      refine AAny_all1 (i := 0) (by kernel_rfl) ?_
      ·
       refine aAt_op rfl rfl fun Q0 q0 => ?_
       simp only [↓bO, go_sem, seval, ↓bs0_1, ↓bs0_2, ↓bs0_3, ↓bs0_4, ↓bs0_5, ↓bs0_6, ↓bs0_7, ↓bs0_8, ↓bs0_9, ↓bs0_10, ↓bs0_11, ↓bs0_12, hb1, hb2, hb3, hb4, hon]
       refine q0 _ ⟨⟨⟨_, _, rfl, by simp, rfl, trivial, trivial⟩, trivial⟩, ?_⟩
       clear q0 Q0
       refine AAny_all1 (i := 2) (by kernel_rfl) ?_
       ·
        refine aAt_op rfl rfl fun Q0 q0 => ?_
        simp only [↓bO, go_sem, seval, hb1, hb2, hb3, hb4, hon]
        refine q0 _ ⟨⟨⟨_, _, rfl, by simp, rfl, trivial, trivial⟩, trivial⟩, ?_⟩
        clear q0 Q0
        refine AAny_all1 (i := 6) (by kernel_rfl) ?_
        ·
         refine aAt_op rfl rfl fun Q0 q0 => ?_
         simp only [↓bO, go_sem, seval, hb1, hb2, hb3, hb4, hon]
         refine q0 _ ⟨⟨⟨_, _, rfl, by simp, rfl, trivial, trivial⟩, trivial⟩, ?_⟩
         clear q0 Q0
         refine AAny_takeK 7 rfl (by kernel_rfl) (by kernel_rfl) (by kernel_rfl) (fun _ _ h => h) fun Q0 q0 => ?_
         simp only [↓bO, go_sem, seval, hb1, hb2, hb3, hb4, hon]
         refine q0 _ ?_
         clear q0 Q0
         refine AAny_done (by kernel_rfl) ?_
         simp only [thenQ, blockQ, noGotoQ]
         try simp only [maskL, setsL, putsO, putO, mB, List.set_cons_zero, List.set_cons_succ, seval]
         first | refine ⟨trivial, ?_⟩ | skip
         have h9 := addV_cases T.k T.n l
         first | (have h9 := h9.1 (by simpa using hc9) (by simpa using hb15); rw [h9]) | (have h9 := h9.2.1 (by simpa using hb15); rw [h9]) | (have h9 := h9.2.2 (by simpa using hc9); rw [h9])
         first | (refine Weak.drops 0 1 rfl rfl (by simp only; omega) (by simp only; omega) ?_ ?_ ?_) | (refine Weak.drops 1 1 rfl rfl (by simp only; omega) (by simp only; omega) ?_ ?_ ?_)
         · simp only [go_sem, Le.refl, Le.any, Le.oslL, List.map_append, List.map_cons, List.map_nil]
         · simp only [UndL, Und.any, Und.v, Und.ptr, und_ints, Nat.zero_lt_succ, Nat.reduceLT, and_self]
         · simp only [UndOs, Ob.Und, UndL, Und.v, Und.tys, Nat.zero_lt_succ, Nat.reduceLT, and_self]
    ·
     refine AWp_skip ?_
     try simp only [thenQ, blockQ, noGotoQ]
     try simp only [maskL, setsL, putsO, putO, mB, List.set_cons_zero, List.set_cons_succ, seval]
     first | refine ⟨trivial, ?_⟩ | skip
     have h9 := addV_cases T.k T.n l
     first | (have h9 := h9.1 (by simpa using hc9) (by simpa using hb15); rw [h9]) | (have h9 := h9.2.1 (by simpa using hb15); rw [h9]) | (have h9 := h9.2.2 (by simpa using hc9); rw [h9])
     first | (refine Weak.drops 0 1 rfl rfl (by simp only; omega) (by simp only; omega) ?_ ?_ ?_) | (refine Weak.drops 1 1 rfl rfl (by simp only; omega) (by simp only; omega) ?_ ?_ ?_)
     · simp only [go_sem, Le.refl, Le.any, Le.oslL, List.map_append, List.map_cons, List.map_nil]
     · simp only [UndL, Und.any, Und.v, Und.ptr, und_ints, Nat.zero_lt_succ, Nat.reduceLT, and_self]
     · simp only [UndOs, Ob.Und, UndL, Und.v, Und.tys, Nat.zero_lt_succ, Nat.reduceLT, and_self]
   ·
    simp only [List.set_cons_zero, List.set_cons_succ]
    refine aops_chunk 4 fun Q0 q0 => ?_
    simp only [↓bO, go_sem, seval]
    refine q0 _ ?_
    clear q0 Q0
    simp only [go_sem]
    simp only [↓bO, go_sem, seval]
    refine y0 _ ?_
    try clear y0 Y0
    refine AWp_cond (b := false) (by first | exact rfl | exact congrArg (fun b => AV.v (.bool b)) hb15) (fun h => (by cases h)) (fun _ => ?_)
    refine AWp_skip ?_
    try simp only [thenQ, blockQ, noGotoQ]
    try simp only [maskL, setsL, putsO, putO, mB, List.set_cons_zero, List.set_cons_succ, seval]
    first | refine ⟨trivial, ?_⟩ | skip
    have h9 := addV_cases T.k T.n l
    first | (have h9 := h9.1 (by simpa using hc9) (by simpa using hb15); rw [h9]) | (have h9 := h9.2.1 (by simpa using hb15); rw [h9]) | (have h9 := h9.2.2 (by simpa using hc9); rw [h9])
    first | (refine Weak.drops 0 1 rfl rfl (by simp only; omega) (by simp only; omega) ?_ ?_ ?_) | (refine Weak.drops 1 1 rfl rfl (by simp only; omega) (by simp only; omega) ?_ ?_ ?_)
    · simp only [go_sem, Le.refl, Le.any, Le.oslL, List.map_append, List.map_cons, List.map_nil]
    · simp only [UndL, Und.any, Und.v, Und.ptr, und_ints, Nat.zero_lt_succ, Nat.reduceLT, and_self]
    · simp only [UndOs, Ob.Und, UndL, Und.v, Und.tys, Nat.zero_lt_succ, Nat.reduceLT, and_self]
  simp only [maskL, setsL, putsO, putO, mB, List.set_cons_zero, List.set_cons_succ, seval]
  refine AWp_seqK fun Y0 y0 => ?_
  refine AWp_seqK fun Y1 y1 => ?_
  refine AWp_region ?_
  simp only [↓bO, go_sem, seval]
  refine y1 _ ?_
  try clear y1 Y1
  refine AWp_block ?_
  refine AWp_loopM (σ := Nat) (mB 38 38) (fun s => s ≤ T.ps.length) (fun s => [(1, .sl 1 ((Ty.rvarsL (T.ps.take s) (if T.k = 1 then addV l T.n else l)).map intC)), (5, .v (.int .i64 (s : Int)))]) (fun s => []) (fun s => T.ps.length - s) 0 (by omega) ?_ (fun s hs => ?_)
  ·
   simp only [maskL, setsL, putsO, putO, mB, List.set_cons_zero, List.set_cons_succ, seval, bL, Ty.rvarsL]
   exact Weak.mk (by simp only [go_sem, Le.refl, Le.any, Le.slNil, Int.natCast_add, Int.cast_ofNat_Int, Int.natCast_one]) (fun _ _ h => h) rfl rfl
  simp only [maskL, setsL, putsO, putO, mB, List.set_cons_zero, List.set_cons_succ, seval]
  refine AWp_seqK fun Y1 y1 => ?_
  refine AWp_seqK fun Y2 y2 => ?_
  refine AWp_region ?_
  refine aops_chunk 4 fun Q0 q0 => ?_
  simp only [↓bO, go_sem, seval]
  refine q0 _ ?_
  clear q0 Q0
  simp only [go_sem]
  simp only [↓bO, go_sem, seval]
  refine y2 _ ?_
  try clear y2 Y2
  refine AWp_cond rfl (fun hb27 => ?_) (fun hb27 => ?_)
  ·
   have hk : s < T.ps.length := by simpa using hb27
   obtain ⟨p, hp⟩ : ∃ p, T.ps[s]? = some p := ⟨_, List.getElem?_eq_getElem hk⟩
   have hpc := Ty.cntL_step hp
   have hvl := Ty.rvarsL_len (T.ps.take s) (if T.k = 1 then addV l T.n else l)
   have hw : IntKind.i64.wrap ((s : Int) + 1) = (s : Int) + 1 := wrap_in (by omega) (by omega)
   refine AWp_skip ?_
   try simp only [thenQ, blockQ, noGotoQ]
   refine y1 _ ?_
   try clear y1 Y1
   refine AWp_seqK fun Y1 y1 => ?_
   refine AWp_block ?_
   refine AWp_region ?_
   refine aops_chunk 4 fun Q0 q0 => ?_
   simp only [↓bO, go_sem, seval, hk, gM hp, Int.natCast_add, hw, Ty.rvarsL_step hp]
   refine q0 _ ?_
   clear q0 Q0
   simp only [go_sem]
   refine aops_chunk 2 fun Q0 q0 => ?_
   simp only [↓bO, go_sem, seval, hk, gM hp, Int.natCast_add, hw, Ty.rvarsL_step hp]
   refine q0 _ ?_
   clear q0 Q0
   simp only [go_sem]
   refine aops_chunk 1 fun Q0 q0 => ?_
   simp only [↓bO, go_sem, seval, hk, gM hp, Int.natCast_add, hw, Ty.rvarsL_step hp]
   refine APure.call (ih p (List.mem_of_getElem? hp) (Ty.rvarsL (T.ps.take s) (if T.k = 1 then addV l T.n else l)) (by omega)) ?_
   try simp only [bS, bA, thenQ, blockQ, noGotoQ]
   refine q0 _ ?_
   clear q0 Q0
   simp only [go_sem]
   simp only [↓bO, go_sem, seval, hk, gM hp, Int.natCast_add, hw, Ty.rvarsL_step hp]
   refine y1 _ ?_
   try clear y1 Y1
   refine AWp_region ?_
   simp only [↓bO, go_sem, seval, hk, gM hp, Int.natCast_add, hw, Ty.rvarsL_step hp]
   refine ⟨(s + 1), (by omega), by omega, ?_⟩
   simp only [maskL, setsL, putsO, putO, mB, List.set_cons_zero, List.set_cons_succ, seval, hk, gM hp, Int.natCast_add, Int.natCast_one, hw, Ty.rvarsL_step hp]
   exact Weak.mk (by simp only [go_sem, Le.refl, Le.any, Le.slNil, Int.natCast_add, Int.cast_ofNat_Int, Int.natCast_one]) (fun _ _ h => h) rfl rfl
  ·
   have hk : s = T.ps.length := by simp at hb27; omega
   refine AWp_exit ?_
   simp only [thenQ, blockQ, noGotoQ, bA, Nat.reduceEqDiff, ↓reduceIte]
   refine y0 _ ?_
   try clear y0 Y0
   refine AWp_seqK fun Y0 y0 => ?_
   refine AWp_region ?_
   simp only [↓bO, go_sem, seval]
   refine y0 _ ?_
   try clear y0 Y0
   refine AWp_ret ?_
   try simp only [thenQ, blockQ, noGotoQ, retQ, aRes, tupOf, bS, bA]
   refine Le.of_eq ?_
   rw [Ty.rvars_eq, hk, List.take_length]
end Go.Proofs.YtnlonnnhofagaaaDoor
namespace Go.Proofs.YtnlonnnhofagaaaDoor
open Go Go.RowKit
set_option linter.unusedSimpArgs false
set_option linter.unusedVariables false
set_option linter.unnecessarySimpa false
def itB (n : Int) : ByteArray := ⟨(Lib.itoa n).toArray⟩
def nmH (n : Int) : ByteArray := (⟨#[39]⟩ : ByteArray) ++ Utf8.encode (97 + n % 26)
def nmB (n : Int) : ByteArray := if 26 ≤ n then nmH n ++ itB (n / 26) else nmH n
def bLp : ByteArray := ⟨#[40]⟩
def bRp : ByteArray := ⟨#[41]⟩
def bAr : ByteArray := ⟨#[32, 45, 62, 32]⟩
def bSt : ByteArray := ⟨#[32, 42, 32]⟩
def brB (b : Bool) (s : ByteArray) : ByteArray := if b then bLp ++ s ++ bRp else s
theorem brB_size (b : Bool) (s : ByteArray) : (brB b s).size ≤ s.size + 2 := by
  unfold brB
  split
  · rw [ByteArray.size_append, ByteArray.size_append]; show 1 + s.size + 1 ≤ _; omega
  · omega
mutual
/-- a right type's text -/
def Ty.tx : Ty → ByteArray
  | .mk k n ps =>
    if k = 1 then nmB n else if k = 2 then ⟨#[105, 110, 116]⟩ else if k = 3 then ⟨#[98, 111, 111, 108]⟩
    else if k = 4 then (match Ty.txP ps with
      | (ka, a) :: (_, b) :: _ => brB (ka == 4) a ++ bAr ++ b
      | _ => ByteArray.empty)
    else bLp ++ joinB ((Ty.txP ps).map fun p => brB (p.1 == 4) p.2) bSt ++ bRp
def Ty.txP : List Ty → List (Int × ByteArray)
  | [] => []
  | p :: ps => (p.k, Ty.tx p) :: Ty.txP ps
end
theorem Ty.txP_eq : ∀ ps, Ty.txP ps = ps.map fun p => (p.k, p.tx)
  | [] => rfl
  | p :: ps => by rw [Ty.txP, Ty.txP_eq ps]; rfl
def Ty.btx (p : Ty) : ByteArray := brB (p.k == 4) p.tx
theorem Ty.tx_eq (t : Ty) : t.tx = if t.k = 1 then nmB t.n else if t.k = 2 then ⟨#[105, 110, 116]⟩ else if t.k = 3 then ⟨#[98, 111, 111, 108]⟩
    else if t.k = 4 then (match t.ps with
      | a :: b :: _ => a.btx ++ bAr ++ b.tx
      | _ => ByteArray.empty)
    else bLp ++ joinB (t.ps.map Ty.btx) bSt ++ bRp := by
  cases t with
  | mk k n ps =>
    have e : (match ps.map (fun p => (p.k, p.tx)) with
        | (ka, a) :: (_, b) :: _ => brB (ka == 4) a ++ bAr ++ b
        | _ => ByteArray.empty) = (match ps with
        | a :: b :: _ => a.btx ++ bAr ++ b.tx
        | _ => ByteArray.empty) := by
      cases ps with
      | nil => rfl
      | cons a ps =>
        cases ps with
        | nil => rfl
        | cons b ps => rfl
    rw [Ty.tx, Ty.txP_eq, e, List.map_map]
    rfl
def sumS (l : List ByteArray) : Nat := (l.map ByteArray.size).sum
theorem join_cons2 (x y : List UInt8) (l : List (List UInt8)) (sep : List UInt8) : Lib.join (x :: y :: l) sep = x ++ sep ++ Lib.join (y :: l) sep := by
  simp [Lib.join, List.intercalate, List.intersperse]
theorem join_len (sep : List UInt8) : ∀ l : List (List UInt8), (Lib.join l sep).length ≤ (l.map List.length).sum + sep.length * l.length
  | [] => by simp [Lib.join, List.intercalate, List.intersperse]
  | [x] => by simp [Lib.join, List.intercalate, List.intersperse]
  | x :: y :: l => by
    have := join_len sep (y :: l)
    rw [join_cons2]
    simp only [List.length_append, List.map_cons, List.sum_cons, List.length_cons] at this ⊢
    rw [Nat.mul_add sep.length (l.length + 1), Nat.mul_one]
    omega
theorem joinB_size (l : List ByteArray) (sep : ByteArray) : (joinB l sep).size ≤ sumS l + sep.size * l.length := by
  have h := join_len sep.data.toList (l.map (·.data.toList))
  have e1 : (joinB l sep).size = (Lib.join (l.map (·.data.toList)) sep.data.toList).length := rfl
  have e2 : ((l.map (·.data.toList)).map List.length).sum = sumS l := by
    unfold sumS; rw [List.map_map]; congr 1
  have e3 : sep.data.toList.length = sep.size := Array.length_toList
  rw [e1]
  rw [e2, e3, List.length_map] at h
  exact h
inductive Ty.Gd : Ty → Prop where
  | int : Ty.Gd (.mk 2 0 [])
  | bool : Ty.Gd (.mk 3 0 [])
  | fn {a b : Ty} (ha : a.Gd) (hb : b.Gd) : Ty.Gd (.mk 4 0 [a, b])
  | tup {ps : List Ty} (h2 : 2 ≤ ps.length) (h8 : ps.length ≤ 8) (h : ∀ p ∈ ps, p.Gd) : Ty.Gd (.mk 5 0 ps)
theorem addV_ge (l : List Int) (n : Int) : l.length ≤ (addV l n).length := by unfold addV; split <;> simp
theorem Ty.rvars_ge : ∀ (t : Ty) (l : List Int), l.length ≤ (t.rvars l).length := by
  refine Ty.ind fun t ih => ?_
  have key : ∀ ps : List Ty, (∀ p ∈ ps, ∀ l : List Int, l.length ≤ (p.rvars l).length) → ∀ l : List Int, l.length ≤ (Ty.rvarsL ps l).length := by
    intro ps
    induction ps with
    | nil => intro _ l; simp [Ty.rvarsL]
    | cons p ps ihp =>
      intro h l
      rw [Ty.rvarsL]
      have h1 := h p (by simp) l
      have h2 := ihp (fun q hq => h q (by simp [hq])) (p.rvars l)
      omega
  intro l
  rw [Ty.rvars_eq]
  have h2 := addV_ge l t.n
  by_cases hk : t.k = 1
  · rw [if_pos hk]; have h1 := key t.ps ih (addV l t.n); omega
  · rw [if_neg hk]; exact key t.ps ih l
theorem Ty.rvarsL_ge (ps : List Ty) (l : List Int) : l.length ≤ (Ty.rvarsL ps l).length := by
  have := Ty.rvars_ge (.mk 0 0 ps) l
  rw [Ty.rvars_eq] at this
  exact this
theorem Ty.rvarsL_nil : ∀ ps : List Ty, Ty.rvarsL ps [] = [] → ∀ p ∈ ps, p.rvars [] = []
  | [], _, p, hp => by cases hp
  | q :: ps, h, p, hp => by
    rw [Ty.rvarsL] at h
    have h1 := Ty.rvarsL_ge ps (q.rvars [])
    rw [h] at h1
    have h2 : q.rvars [] = [] := List.eq_nil_of_length_eq_zero (by simpa using h1)
    rcases List.mem_cons.1 hp with rfl | hp
    · exact h2
    · rw [h2] at h
      exact Ty.rvarsL_nil ps h p hp
theorem Ty.gd_of : ∀ t : Ty, t.right = true → t.rvars [] = [] → t.Gd := by
  refine Ty.ind fun t ih => ?_
  intro hr hv
  rw [Ty.right_eq, Bool.and_eq_true, List.all_eq_true] at hr
  rw [Ty.rvars_eq] at hv
  have hk : ¬ t.k = 1 := fun hk => by
    rw [if_pos hk] at hv
    have h1 := Ty.rvarsL_ge t.ps (addV [] t.n)
    rw [hv] at h1
    have h2 : (addV [] t.n).length = 1 := rfl
    rw [h2] at h1; simp at h1
  rw [if_neg hk] at hv
  have hp : ∀ p ∈ t.ps, p.Gd := fun p hp => ih p hp (hr.2 p hp) (Ty.rvarsL_nil t.ps hv p hp)
  have h1 := hr.1
  simp only [okN, decide_eq_true_eq] at h1
  cases t with
  | mk k n ps =>
    simp only [Ty.k, Ty.n, Ty.ps] at h1 hk hp
    rcases h1 with h1 | ⟨rfl, h1 | h1 | h1⟩
    · exact absurd h1.1 hk
    · obtain rfl : ps = [] := List.eq_nil_of_length_eq_zero h1.2
      rcases h1.1 with rfl | rfl
      · exact .int
      · exact .bool
    · obtain ⟨rfl, h2⟩ := h1
      match ps, h2 with
      | [a, b], _ => exact .fn (hp a (by simp)) (hp b (by simp))
    · obtain ⟨rfl, h2, h8⟩ := h1
      exact .tup h2 h8 hp
abbrev Vw := Int × ByteArray
def vw (t : Tok) : Vw := (t.k, t.s)
def brT (b : Bool) (l : List Vw) : List Vw := if b then (4, bOpen) :: (l ++ [(4, bClose)]) else l
def flT (l : List (List Vw)) : List Vw := l.flatMap fun y => (4, bStar) :: y
def joinT : List (List Vw) → List Vw
  | [] => []
  | x :: l => x ++ flT l
mutual
/-- a type's tokens -/
def Ty.tk : Ty → List Vw
  | .mk k n ps =>
    if k = 2 then [(3, bInt)] else if k = 3 then [(3, bBool)]
    else if k = 4 then (match Ty.tkP ps with
      | (ka, a) :: (_, b) :: _ => brT (ka == 4) a ++ (4, bArrow) :: b
      | _ => [])
    else (4, bOpen) :: (joinT ((Ty.tkP ps).map fun p => brT (p.1 == 4) p.2) ++ [(4, bClose)])
def Ty.tkP : List Ty → List (Int × List Vw)
  | [] => []
  | p :: ps => (p.k, Ty.tk p) :: Ty.tkP ps
end
theorem Ty.tkP_eq : ∀ ps, Ty.tkP ps = ps.map fun p => (p.k, p.tk)
  | [] => rfl
  | p :: ps => by rw [Ty.tkP, Ty.tkP_eq ps]; rfl
def Ty.btk (p : Ty) : List Vw := brT (p.k == 4) p.tk
theorem tk_int : (Ty.mk 2 0 []).tk = [(3, bInt)] := rfl
theorem tk_bool : (Ty.mk 3 0 []).tk = [(3, bBool)] := rfl
theorem tk_fn (a b : Ty) : (Ty.mk 4 0 [a, b]).tk = a.btk ++ (4, bArrow) :: b.tk := rfl
theorem tk_tup (ps : List Ty) : (Ty.mk 5 0 ps).tk = (4, bOpen) :: (joinT (ps.map Ty.btk) ++ [(4, bClose)]) := by
  rw [Ty.tk, Ty.tkP_eq, List.map_map]
  rfl
theorem btk_of {t : Ty} (h : ¬ t.k = 4) : t.btk = t.tk := by
  unfold Ty.btk brT
  rw [if_neg (by simpa using h)]
theorem btk_fn (a b : Ty) : (Ty.mk 4 0 [a, b]).btk = (4, bOpen) :: ((Ty.mk 4 0 [a, b]).tk ++ [(4, bClose)]) := rfl
theorem tx_int : (Ty.mk 2 0 []).tx = bInt := rfl
theorem tx_bool : (Ty.mk 3 0 []).tx = bBool := rfl
theorem tx_fn (a b : Ty) : (Ty.mk 4 0 [a, b]).tx = a.btx ++ bAr ++ b.tx := rfl
theorem tx_tup (ps : List Ty) : (Ty.mk 5 0 ps).tx = bLp ++ joinB (ps.map Ty.btx) bSt ++ bRp := by rw [Ty.tx_eq]; rfl
theorem cnt_mk (k n : Int) (ps : List Ty) : (Ty.mk k n ps).cnt = 1 + Ty.cntL ps := by have := (Ty.mk k n ps).cnt_eq; simpa [Ty.ps] using this
theorem cnt_pos' (t : Ty) : 1 ≤ t.cnt := by rw [t.cnt_eq]; omega
theorem btk_len (t : Ty) : t.btk.length ≤ t.tk.length + 2 := by
  unfold Ty.btk brT
  split
  · simp
  · omega
theorem joinT_len (l : List (List Vw)) : (joinT l).length ≤ (l.map fun x => x.length + 1).sum := by
  have h : ∀ l : List (List Vw), (flT l).length = (l.map fun x => x.length + 1).sum := fun l => by
    unfold flT; rw [List.length_flatMap]; rfl
  cases l with
  | nil => simp [joinT]
  | cons x l => simp only [joinT, List.length_append, h, List.map_cons, List.sum_cons]; omega
theorem Ty.Gd.tk_len {t : Ty} (h : t.Gd) : t.tk.length + 3 ≤ 5 * t.cnt := by
  induction h with
  | int => rw [tk_int, cnt_mk]; simp [Ty.cntL]
  | bool => rw [tk_bool, cnt_mk]; simp [Ty.cntL]
  | @fn a b ha hb iha ihb =>
    rw [tk_fn, cnt_mk]
    have := btk_len a
    simp only [List.length_append, List.length_cons, Ty.cntL]; omega
  | @tup ps h2 h8 h ih =>
    rw [tk_tup, cnt_mk]
    have h1 := joinT_len (ps.map Ty.btk)
    have h3 : ∀ qs : List Ty, (∀ p ∈ qs, p.tk.length + 3 ≤ 5 * p.cnt) → ((qs.map Ty.btk).map fun x => x.length + 1).sum ≤ 5 * Ty.cntL qs := by
      intro qs
      induction qs with
      | nil => intro _; simp [Ty.cntL]
      | cons q qs ihq =>
        intro hq
        have h4 := hq q (by simp)
        have h5 := ihq fun p hp => hq p (by simp [hp])
        have h6 := btk_len q
        simp only [List.map_cons, List.sum_cons, Ty.cntL] at h5 ⊢; omega
    have h4 := h3 ps ih
    simp only [List.length_append, List.length_cons, List.length_nil]; omega
theorem btx_size (t : Ty) : t.btx.size ≤ t.tx.size + 2 := brB_size _ _
theorem Ty.Gd.tx_size {t : Ty} (h : t.Gd) : t.tx.size + 5 ≤ 9 * t.cnt := by
  induction h with
  | int => rw [tx_int, cnt_mk]; show 3 + 5 ≤ _; omega
  | bool => rw [tx_bool, cnt_mk]; show 4 + 5 ≤ _; omega
  | @fn a b ha hb iha ihb =>
    rw [tx_fn, cnt_mk, ByteArray.size_append, ByteArray.size_append]
    have := btx_size a
    have e : bAr.size = 4 := rfl
    simp only [Ty.cntL]; omega
  | @tup ps h2 h8 h ih =>
    rw [tx_tup, cnt_mk, ByteArray.size_append, ByteArray.size_append]
    have h1 := joinB_size (ps.map Ty.btx) bSt
    have h3 : ∀ qs : List Ty, (∀ p ∈ qs, p.tx.size + 5 ≤ 9 * p.cnt) → sumS (qs.map Ty.btx) + 3 * qs.length ≤ 9 * Ty.cntL qs := by
      intro qs
      induction qs with
      | nil => intro _; simp [Ty.cntL, sumS]
      | cons q qs ihq =>
        intro hq
        have h4 := hq q (by simp)
        have h5 := ihq fun p hp => hq p (by simp [hp])
        have h6 := btx_size q
        simp only [sumS, List.map_cons, List.sum_cons, Ty.cntL, List.length_cons] at h5 ⊢; omega
    have h4 := h3 ps ih
    have e1 : bLp.size = 1 := rfl
    have e2 : bRp.size = 1 := rfl
    have e3 : bSt.size = 3 := rfl
    rw [e3, List.length_map] at h1
    omega
end Go.Proofs.YtnlonnnhofagaaaDoor
namespace Go.Proofs.YtnlonnnhofagaaaDoor
open Go Go.RowKit
set_option maxRecDepth 100000
set_option maxHeartbeats 4000000
set_option linter.unusedSimpArgs false
set_option linter.unusedVariables false
set_option linter.unnecessarySimpa false
attribute [local irreducible] aops dRun
theorem Ty.Gd.k1 {t : Ty} (h : t.Gd) : ¬ t.k = 1 := by cases h <;> (intro h9; exact absurd h9 (by simp [Ty.k]))
theorem Ty.Gd.part {t : Ty} (h : t.Gd) : ∀ p ∈ t.ps, p.Gd := by
  cases h with
  | int => intro p hp; cases hp
  | bool => intro p hp; cases hp
  | fn ha hb => intro p hp; simp only [Ty.ps, List.mem_cons, List.not_mem_nil, or_false] at hp; rcases hp with rfl | rfl <;> assumption
  | tup h2 h8 h => exact h
theorem Ty.Gd.four {t : Ty} (h : t.Gd) (hk : t.k = 4) : ∃ a b, t.ps = [a, b] := by
  cases h with
  | int => exact absurd hk (by decide)
  | bool => exact absurd hk (by decide)
  | fn ha hb => exact ⟨_, _, rfl⟩
  | tup h2 h8 h => exact absurd hk (show ¬ (5 : Int) = 4 by decide)
theorem cntL_part {p : Ty} : ∀ {qs : List Ty}, p ∈ qs → p.cnt ≤ Ty.cntL qs
  | r :: qs, hp => by
    rw [Ty.cntL]
    rcases List.mem_cons.1 hp with rfl | hp
    · omega
    · have := cntL_part hp; omega
theorem tx_join {ps : List Ty} (h : ∀ p ∈ ps, p.Gd) : (joinB (ps.map Ty.btx) bSt).size ≤ 9 * Ty.cntL ps := by
  have h1 := joinB_size (ps.map Ty.btx) bSt
  have h3 : ∀ qs : List Ty, (∀ p ∈ qs, p.Gd) → sumS (qs.map Ty.btx) + 3 * qs.length ≤ 9 * Ty.cntL qs := by
    intro qs
    induction qs with
    | nil => intro _; simp [Ty.cntL, sumS]
    | cons q qs ihq =>
      intro hq
      have h4 := (hq q (by simp)).tx_size
      have h5 := ihq fun p hp => hq p (by simp [hp])
      have h6 := btx_size q
      simp only [sumS, List.map_cons, List.sum_cons, Ty.cntL, List.length_cons] at h5 ⊢; omega
  have h4 := h3 ps h
  have e3 : bSt.size = 3 := rfl
  rw [e3, List.length_map] at h1
  omega
theorem tx_step {ps : List Ty} {s : Nat} {p : Ty} (hp : ps[s]? = some p) : ((ps.take (s + 1)).map Ty.btx).map strC = ((ps.take s).map Ty.btx).map strC ++ [[.v (.string (brB (p.k == 4) p.tx))]] := by
  rw [List.take_add_one, hp]; simp [strC, Ty.btx]
theorem und_strs {n id : Nat} {l : List ByteArray} (h : id < n) : Und n (.osl id 1 (l.map strC)) := .osl h (.data (dataStrs l))
theorem und_strs1 {n id : Nat} {l : List ByteArray} {b : ByteArray} (h : id < n) : Und n (.osl id 1 (l.map strC ++ [[.v (.string b)]])) := by
  have h1 := und_strs (l := l ++ [b]) h
  rw [List.map_append] at h1
  exact h1
theorem bracket_pure (b : Bool) (s : ByteArray) (hs : s.size ≤ 1099511627776) : APure Tryd.prog 42 [.v (.bool b), .v (.string s)] (.v (.string (brB b s))) := by
  refine APure.mkL (.cons (.v _) (.cons (.v _) .nil)) (.v _) ?_
  refine ACalls_intro Tryd.func42 (by kernel_rfl) rfl (by rw [Tryd.ntmps42]; simp) (fun hm => ?_)
  simp only [Tryd.ntmps42, Tryd.results42, List.length_cons, List.length_nil, Nat.reduceAdd, Nat.reduceSub, List.replicate_succ, List.replicate_zero, List.cons_append, List.nil_append]
  have hz3 : ((((#[40] : Array UInt8).size + s.size : Nat) : Int) ≤ IntKind.i64.max) = True := eq_true (by ( show ((1 + s.size : Nat) : Int) ≤ 9223372036854775807); omega)
  have hz2 : ((((#[40] : Array UInt8).size + s.size + (#[41] : Array UInt8).size : Nat) : Int) ≤ IntKind.i64.max) = True := eq_true (by ( show ((1 + s.size + 1 : Nat) : Int) ≤ 9223372036854775807); omega)
  refine AWp_seqK fun Y0 y0 => ?_
  refine AWp_region ?_
  simp only [↓bO, go_sem, seval, hz3, hz2]
  refine y0 _ ?_
  try clear y0 Y0
  refine AWp_seqK fun Y0 y0 => ?_
  refine AWp_seqK fun Y1 y1 => ?_
  refine AWp_region ?_
  simp only [↓bO, go_sem, seval, hz3, hz2]
  refine y1 _ ?_
  try clear y1 Y1
  refine AWp_cond rfl (fun hb5 => ?_) (fun hb5 => ?_)
  ·
   refine AWp_seqK fun Y1 y1 => ?_
   refine AWp_region ?_
   iterate 3 (refine aops_chunk 1 fun Q0 q0 => ?_; simp only [↓bO, go_sem, seval, hz3, hz2]; refine q0 _ ?_; clear q0 Q0; simp only [go_sem])
   simp only [↓bO, go_sem, seval, hz3, hz2]
   refine y1 _ ?_
   try clear y1 Y1
   refine AWp_ret ?_
   try simp only [thenQ, blockQ, noGotoQ, retQ, aRes, tupOf, bS, bA]
   refine Le.of_eq (congrArg (fun s => AV.v (.string s)) ?_)
   simp_all [brB, bLp, bRp]
  ·
   refine AWp_skip ?_
   try simp only [thenQ, blockQ, noGotoQ]
   refine y0 _ ?_
   try clear y0 Y0
   refine AWp_seqK fun Y0 y0 => ?_
   refine AWp_region ?_
   refine aops_chunk 1 fun Q0 q0 => ?_
   simp only [↓bO, go_sem, seval, hz3, hz2]
   refine q0 _ ?_
   clear q0 Q0
   simp only [go_sem]
   simp only [↓bO, go_sem, seval, hz3, hz2]
   refine y0 _ ?_
   try clear y0 Y0
   refine AWp_ret ?_
   try simp only [thenQ, blockQ, noGotoQ, retQ, aRes, tupOf, bS, bA]
   refine Le.of_eq (congrArg (fun s => AV.v (.string s)) ?_)
   simp_all [brB, bLp, bRp]
theorem Text_pure : ∀ (T : Ty) (hg : T.Gd) (hc : T.cnt ≤ 1048576), APure Tryd.prog 29 [.agg T.cells] (.v (.string T.tx)) := by
  refine Ty.ind fun T ih => ?_
  intro hg hc
  refine APure.mkL (.cons T.dataAgg .nil) (.v _) ?_
  refine ACalls_intro Tryd.func29 (by kernel_rfl) rfl (by rw [Tryd.ntmps29]; simp) (fun hm => ?_)
  simp only [Tryd.ntmps29, Tryd.results29, List.length_cons, List.length_nil, Nat.reduceAdd, Nat.reduceSub, List.replicate_succ, List.replicate_zero, List.cons_append, List.nil_append]
  have hcn := T.cnt_eq
  have hcl := Ty.cntL_len T.ps
  simp only [Ty.cells_eq T, List.cons_append, List.nil_append]
  have hgp0 := hg.part
  have hjs := tx_join hgp0
  have hz1 : ((((#[40] : Array UInt8).size + (joinB (T.ps.map Ty.btx) bSt).size : Nat) : Int) ≤ IntKind.i64.max) = True := eq_true (by ( show ((1 + (joinB (T.ps.map Ty.btx) bSt).size : Nat) : Int) ≤ 9223372036854775807); omega)
  have hz2 : ((((#[40] : Array UInt8).size + (joinB (T.ps.map Ty.btx) bSt).size + (#[41] : Array UInt8).size : Nat) : Int) ≤ IntKind.i64.max) = True := eq_true (by ( show ((1 + (joinB (T.ps.map Ty.btx) bSt).size + 1 : Nat) : Int) ≤ 9223372036854775807); omega)
  refine AWp_seqK fun Y0 y0 => ?_
  refine AWp_region ?_
  simp only [↓bO, go_sem, seval, hz1, hz2]
  refine y0 _ ?_
  try clear y0 Y0
  refine AWp_seqK fun Y0 y0 => ?_
  refine AWp_seqK fun Y1 y1 => ?_
  refine AWp_region ?_
  simp only [↓bO, go_sem, seval, hz1, hz2]
  refine y1 _ ?_
  try clear y1 Y1
  refine AWp_block ?_
  refine AWp_seqK fun Y1 y1 => ?_
  refine AWp_region ?_
  simp only [↓bO, go_sem, seval, hz1, hz2]
  refine y1 _ ?_
  try clear y1 Y1
  refine AWp_cond rfl (fun hb8 => ?_) (fun hb8 => ?_)
  ·
   exact absurd (by simpa using hb8) hg.k1
  ·
   have hk1 : ¬ T.k = 1 := by simpa using hb8
   refine AWp_seqK fun Y1 y1 => ?_
   refine AWp_region ?_
   simp only [↓bO, go_sem, seval, hz1, hz2]
   refine y1 _ ?_
   try clear y1 Y1
   refine AWp_cond rfl (fun hb13 => ?_) (fun hb13 => ?_)
   ·
    have hk2 : T.k = 2 := by simpa using hb13
    refine AWp_seqK fun Y1 y1 => ?_
    refine AWp_region ?_
    simp only [↓bO, go_sem, seval, hz1, hz2]
    refine y1 _ ?_
    try clear y1 Y1
    refine AWp_ret ?_
    try simp only [thenQ, blockQ, noGotoQ, retQ, aRes, tupOf, bS, bA]
    refine Le.of_eq (congrArg (fun s => AV.v (.string s)) ?_)
    rw [T.tx_eq]
    rw [if_neg hk1, if_pos hk2]
   ·
    have hk2 : ¬ T.k = 2 := by simpa using hb13
    refine AWp_seqK fun Y1 y1 => ?_
    refine AWp_region ?_
    simp only [↓bO, go_sem, seval, hz1, hz2]
    refine y1 _ ?_
    try clear y1 Y1
    refine AWp_cond rfl (fun hb15 => ?_) (fun hb15 => ?_)
    ·
     have hk3 : T.k = 3 := by simpa using hb15
     refine AWp_seqK fun Y1 y1 => ?_
     refine AWp_region ?_
     simp only [↓bO, go_sem, seval, hz1, hz2]
     refine y1 _ ?_
     try clear y1 Y1
     refine AWp_ret ?_
     try simp only [thenQ, blockQ, noGotoQ, retQ, aRes, tupOf, bS, bA]
     refine Le.of_eq (congrArg (fun s => AV.v (.string s)) ?_)
     rw [T.tx_eq]
     rw [if_neg hk1, if_neg hk2, if_pos hk3]
    ·
     have hk3 : ¬ T.k = 3 := by simpa using hb15
     refine AWp_seqK fun Y1 y1 => ?_
     refine AWp_region ?_
     simp only [↓bO, go_sem, seval, hz1, hz2]
     refine y1 _ ?_
     try clear y1 Y1
     refine AWp_cond rfl (fun hb17 => ?_) (fun hb17 => ?_)
     ·
      have hk4 : T.k = 4 := by simpa using hb17
      obtain ⟨a, b, hps⟩ := hg.four hk4
      have hga : a.Gd := hgp0 a (by rw [hps]; simp)
      have hgb : b.Gd := hgp0 b (by rw [hps]; simp)
      have hab : T.cnt = 1 + (a.cnt + b.cnt) := by (rw [hcn, hps]; simp [Ty.cntL])
      have hsa := hga.tx_size
      have hsb := hgb.tx_size
      have hsa2 := brB_size (a.k == 4) a.tx
      have hz3 : ((((brB (a.k == 4) a.tx).size + (#[32, 45, 62, 32] : Array UInt8).size : Nat) : Int) ≤ IntKind.i64.max) = True := eq_true (by ( show (((brB (a.k == 4) a.tx).size + 4 : Nat) : Int) ≤ 9223372036854775807); omega)
      have hz4 : ((((brB (a.k == 4) a.tx).size + (#[32, 45, 62, 32] : Array UInt8).size + b.tx.size : Nat) : Int) ≤ IntKind.i64.max) = True := eq_true (by ( show (((brB (a.k == 4) a.tx).size + 4 + b.tx.size : Nat) : Int) ≤ 9223372036854775807); omega)
      refine AWp_seqK fun Y1 y1 => ?_
      refine AWp_drawK 19 mixed (by kernel_rfl) fun J0 j0 => ?_
      iterate 3 (simp only [go_sem]; refine dRun_chunk 3 fun Q0 q0 => ?_; simp only [↓dRun, ↓dOp, ↓bO, go_sem, seval, hz1, hz2, hps, hz3, hz4]; refine q0 _ ?_; clear q0 Q0)
      simp only [go_sem]
      refine dRun_chunk 1 fun Q0 q0 => ?_
      simp only [↓dRun, ↓dOp, ↓bO, go_sem, seval, hz1, hz2, hps, hz3, hz4]
      refine q0 _ ?_
      clear q0 Q0
      simp only [go_sem]
      refine dRun_chunk 1 fun Q0 q0 => ?_
      simp only [↓dRun, ↓dOp, ↓bO, go_sem, seval, hz1, hz2, hps, hz3, hz4]
      refine ⟨_, ih a (by rw [hps]; simp) hga (by omega), ?_⟩
      try simp only [bS, bA, thenQ, blockQ, noGotoQ]
      refine q0 _ ?_
      clear q0 Q0
      simp only [go_sem]
      refine dRun_chunk 1 fun Q0 q0 => ?_
      simp only [↓dRun, ↓dOp, ↓bO, go_sem, seval, hz1, hz2, hps, hz3, hz4]
      refine ⟨_, bracket_pure (a.k == 4) a.tx (by omega), ?_⟩
      try simp only [bS, bA, thenQ, blockQ, noGotoQ]
      refine q0 _ ?_
      clear q0 Q0
      simp only [go_sem]
      refine dRun_chunk 3 fun Q0 q0 => ?_
      simp only [↓dRun, ↓dOp, ↓bO, go_sem, seval, hz1, hz2, hps, hz3, hz4]
      refine q0 _ ?_
      clear q0 Q0
      simp only [go_sem]
      refine dRun_chunk 2 fun Q0 q0 => ?_
      simp only [↓dRun, ↓dOp, ↓bO, go_sem, seval, hz1, hz2, hps, hz3, hz4]
      refine q0 _ ?_
      clear q0 Q0
      simp only [go_sem]
      refine dRun_chunk 1 fun Q0 q0 => ?_
      simp only [↓dRun, ↓dOp, ↓bO, go_sem, seval, hz1, hz2, hps, hz3, hz4]
      refine ⟨_, ih b (by rw [hps]; simp) hgb (by omega), ?_⟩
      try simp only [bS, bA, thenQ, blockQ, noGotoQ]
      refine q0 _ ?_
      clear q0 Q0
      simp only [go_sem]
      simp only [↓dRun, ↓dOp, ↓bO, go_sem, seval, hz1, hz2, hps, hz3, hz4]
      refine j0 _ ?_
      clear j0 J0
      simp only [go_sem]
      simp only [↓bO, go_sem, seval, hz1, hz2, hps, hz3, hz4]
      refine y1 _ ?_
      try clear y1 Y1
      refine AWp_ret ?_
      try simp only [thenQ, blockQ, noGotoQ, retQ, aRes, tupOf, bS, bA]
      refine Le.of_eq (congrArg (fun s => AV.v (.string s)) ?_)
      rw [T.tx_eq]
      rw [if_neg hk1, if_neg hk2, if_neg hk3, if_pos hk4, hps]
      rfl
     ·
      have hk4 : ¬ T.k = 4 := by simpa using hb17
      refine AWp_skip ?_
      try simp only [thenQ, blockQ, noGotoQ]
      refine y0 _ ?_
      try clear y0 Y0
      refine AWp_seqK fun Y0 y0 => ?_
      refine AWp_region ?_
      simp only [↓bO, go_sem, seval, hz1, hz2]
      refine y0 _ ?_
      try clear y0 Y0
      refine AWp_seqK fun Y0 y0 => ?_
      refine AWp_seqK fun Y1 y1 => ?_
      refine AWp_region ?_
      refine aops_chunk 3 fun Q0 q0 => ?_
      simp only [↓bO, go_sem, seval, hz1, hz2]
      refine q0 _ ?_
      clear q0 Q0
      simp only [go_sem]
      simp only [↓bO, go_sem, seval, hz1, hz2]
      refine y1 _ ?_
      try clear y1 Y1
      refine AWp_block ?_
      refine AWp_weak (Weak.tokSlot 3 9 1 rfl) ?_
      simp only [List.set_cons_zero, List.set_cons_succ]
      refine AWp_loopM (σ := Nat) (mB 59 3848290697224) (fun s => s ≤ T.ps.length) (fun s => [(3, .osl 1 1 (((T.ps.take s).map Ty.btx).map strC)), (41, .v (.int .i64 (s : Int)))]) (fun s => [(1, .tok 9 1 s)]) (fun s => T.ps.length - s) 0 (by omega) ?_ (fun s hs => ?_)
      ·
       simp only [maskL, setsL, putsO, putO, mB, List.set_cons_zero, List.set_cons_succ, seval, bL]
       exact Weak.mk (by simp only [go_sem, Le.refl, Le.any, Le.slNil, Int.natCast_add, Int.cast_ofNat_Int, Int.natCast_one]) (fun _ _ h => h) rfl rfl
      simp only [maskL, setsL, putsO, putO, mB, List.set_cons_zero, List.set_cons_succ, seval]
      refine AWp_seqK fun Y1 y1 => ?_
      refine AWp_region ?_
      simp only [↓bO, go_sem, seval, hz1, hz2]
      refine y1 _ ?_
      try clear y1 Y1
      refine AWp_seqK fun Y1 y1 => ?_
      refine AWp_cond rfl (fun hb42 => ?_) (fun hb42 => ?_)
      ·
       have hk : s < T.ps.length := by simpa using hb42
       obtain ⟨p, hp⟩ : ∃ p, T.ps[s]? = some p := ⟨_, List.getElem?_eq_getElem hk⟩
       have hgp := hgp0 p (List.mem_of_getElem? hp)
       have hpc := cntL_part (List.mem_of_getElem? hp)
       have hsp := hgp.tx_size
       have hw : IntKind.i64.wrap ((s : Int) + 1) = (s : Int) + 1 := wrap_in (by omega) (by omega)
       have hln : (((T.ps.take s).map Ty.btx).map strC).length = s := by simp; omega
       have hb1 : (s + 1) * 16 ≤ 140737488355328 := by omega
       have hb2 : s + 1 ≤ maxLen := by simp only [maxLen]; omega
       refine AWp_skip ?_
       try simp only [thenQ, blockQ, noGotoQ]
       refine y1 _ ?_
       try clear y1 Y1
       refine AWp_seqK fun Y1 y1 => ?_
       refine AWp_block ?_
       refine AWp_seqK fun Y2 y2 => ?_
       refine AWp_region ?_
       refine aops_chunk 3 fun Q0 q0 => ?_
       simp only [↓bO, go_sem, seval, hz1, hz2, hk, gM hp, Int.natCast_add, hw, hln, hb1, hb2, tx_step hp]
       refine q0 _ ?_
       clear q0 Q0
       simp only [go_sem]
       simp only [↓bO, go_sem, seval, hz1, hz2, hk, gM hp, Int.natCast_add, hw, hln, hb1, hb2, tx_step hp]
       refine y2 _ ?_
       try clear y2 Y2
       refine AWp_drawK 8 mixed (by kernel_rfl) fun J0 j0 => ?_
       simp only [go_sem]
       refine dRun_chunk 3 fun Q0 q0 => ?_
       simp only [↓dRun, ↓dOp, ↓bO, go_sem, seval, hz1, hz2, hk, gM hp, Int.natCast_add, hw, hln, hb1, hb2, tx_step hp]
       refine q0 _ ?_
       clear q0 Q0
       simp only [go_sem]
       refine dRun_chunk 2 fun Q0 q0 => ?_
       simp only [↓dRun, ↓dOp, ↓bO, go_sem, seval, hz1, hz2, hk, gM hp, Int.natCast_add, hw, hln, hb1, hb2, tx_step hp]
       refine q0 _ ?_
       clear q0 Q0
       simp only [go_sem]
       refine dRun_chunk 1 fun Q0 q0 => ?_
       simp only [↓dRun, ↓dOp, ↓bO, go_sem, seval, hz1, hz2, hk, gM hp, Int.natCast_add, hw, hln, hb1, hb2, tx_step hp]
       refine ⟨_, ih p (List.mem_of_getElem? hp) hgp (by omega), ?_⟩
       try simp only [bS, bA, thenQ, blockQ, noGotoQ]
       refine q0 _ ?_
       clear q0 Q0
       simp only [go_sem]
       refine dRun_chunk 1 fun Q0 q0 => ?_
       simp only [↓dRun, ↓dOp, ↓bO, go_sem, seval, hz1, hz2, hk, gM hp, Int.natCast_add, hw, hln, hb1, hb2, tx_step hp]
       refine ⟨_, bracket_pure (p.k == 4) p.tx (by omega), ?_⟩
       try simp only [bS, bA, thenQ, blockQ, noGotoQ]
       refine q0 _ ?_
       clear q0 Q0
       simp only [go_sem]
       simp only [↓dRun, ↓dOp, ↓bO, go_sem, seval, ↓bs1_1, ↓bs1_2, ↓bs1_3, ↓bs1_4, ↓bs1_5, ↓bs1_6, ↓bs1_7, ↓bs1_8, ↓bs1_9, ↓bs1_10, ↓bs1_11, ↓bs1_12, hz1, hz2, hk, gM hp, Int.natCast_add, hw, hln, hb1, hb2, tx_step hp]
       refine j0 _ ?_
       clear j0 J0
       simp only [go_sem]
       simp only [↓bO, go_sem, seval, hz1, hz2, hk, gM hp, Int.natCast_add, hw, hln, hb1, hb2, tx_step hp]
       refine y1 _ ?_
       try clear y1 Y1
       refine AWp_region ?_
       simp only [↓bO, go_sem, seval, hz1, hz2, hk, gM hp, Int.natCast_add, hw, hln, hb1, hb2, tx_step hp]
       refine ⟨(s + 1), (by omega), by omega, ?_⟩
       simp only [maskL, setsL, putsO, putO, mB, List.set_cons_zero, List.set_cons_succ, seval, hk, gM hp, Int.natCast_add, Int.natCast_one, hw, hln, hb1, hb2, tx_step hp]
       first | (refine Weak.drops 1 2 rfl rfl (by simp only; omega) (by simp only; omega) ?_ ?_ ?_) | (refine Weak.drops 0 2 rfl rfl (by simp only; omega) (by simp only; omega) ?_ ?_ ?_)
       · simp only [go_sem, Le.refl, Le.any, Int.natCast_add, Int.cast_ofNat_Int, Int.natCast_one]
       · simp only [UndL, UndOs, Ob.Und, and_true, true_and, and_self, Und.v, Und.any, Und.ptr, Und.map, Nat.reduceLT, Nat.zero_lt_succ, Und.tys, Und.tyAgg, Und.oslTys, Und.oslTys1, Und.clo0, Und.ty, und_strs, und_strs1, Und.tys, Nat.reduceLT]
       · simp only [UndL, UndOs, Ob.Und, and_true, true_and, and_self, Und.v, Und.any, Und.ptr, Und.map, Nat.reduceLT, Nat.zero_lt_succ, Und.tys, Und.tyAgg, Und.oslTys, Und.oslTys1, Und.clo0, Und.ty, und_strs, und_strs1, Und.tys, Nat.reduceLT]
      ·
       have hk : s = T.ps.length := by simp at hb42; omega
       refine AWp_exit ?_
       simp only [thenQ, blockQ, noGotoQ, bA, Nat.reduceEqDiff, ↓reduceIte]
       refine y0 _ ?_
       try clear y0 Y0
       refine AWp_seqK fun Y0 y0 => ?_
       refine AWp_region ?_
       refine aops_chunk 1 fun Q0 q0 => ?_
       simp only [↓bO, go_sem, seval, hz1, hz2]
       refine q0 _ ?_
       clear q0 Q0
       simp only [go_sem]
       refine aops_chunk 1 fun Q0 q0 => ?_
       simp only [↓bO, go_sem, seval, hz1, hz2]
       refine ACalls.args (args' := [.sl 1 ((T.ps.map Ty.btx).map strC), .v (.string bSt)]) ⟨by rw [hk, List.take_length]; exact Le.oslL, .refl _, trivial⟩ ?_
       refine APure.call (Join_pure (T.ps.map Ty.btx) bSt (by rw [List.length_map]; omega) (by omega)) ?_
       try simp only [bS, bA, thenQ, blockQ, noGotoQ]
       refine q0 _ ?_
       clear q0 Q0
       simp only [go_sem]
       simp only [↓bO, go_sem, seval, hz1, hz2]
       refine y0 _ ?_
       try clear y0 Y0
       refine AWp_ret ?_
       try simp only [thenQ, blockQ, noGotoQ, retQ, aRes, tupOf, bS, bA]
       refine Le.of_eq (congrArg (fun s => AV.v (.string s)) ?_)
       rw [T.tx_eq]
       rw [if_neg hk1, if_neg hk2, if_neg hk3, if_neg hk4]
       rfl
theorem Print_pure (T : Ty) (hr : T.right = true) (hg : T.Gd) (hc : T.cnt ≤ 1048576) : APure Tryd.prog 16 [.agg T.cells] (.v (.string T.tx)) := by
  refine APure.mkL (.cons T.dataAgg .nil) (.v _) ?_
  refine ACalls_intro Tryd.func16 (by kernel_rfl) rfl (by rw [Tryd.ntmps16]; simp) (fun hm => ?_)
  simp only [Tryd.ntmps16, Tryd.results16, List.length_cons, List.length_nil, Nat.reduceAdd, Nat.reduceSub, List.replicate_succ, List.replicate_zero, List.cons_append, List.nil_append]
  simp only [Ty.cells_eq T, List.cons_append, List.nil_append]
  refine AWp_seqK fun Y0 y0 => ?_
  refine AWp_region ?_
  simp only [↓bO, go_sem, seval]
  refine y0 _ ?_
  try clear y0 Y0
  refine AWp_seqK fun Y0 y0 => ?_
  refine AWp_seqK fun Y1 y1 => ?_
  refine AWp_region ?_
  refine aops_chunk 1 fun Q0 q0 => ?_
  simp only [↓bO, go_sem, seval]
  refine q0 _ ?_
  clear q0 Q0
  simp only [go_sem]
  refine aops_chunk 1 fun Q0 q0 => ?_
  simp only [↓bO, go_sem, seval]
  refine APure.call (by have h9 := Right_pure T; rw [hr, Ty.cells_eq T] at h9; exact h9) ?_
  try simp only [bS, bA, thenQ, blockQ, noGotoQ]
  refine q0 _ ?_
  clear q0 Q0
  simp only [go_sem]
  simp only [↓bO, go_sem, seval]
  refine y1 _ ?_
  try clear y1 Y1
  refine AWp_cond rfl (fun hb5 => ?_) (fun hb5 => ?_)
  ·
   exact absurd hb5 (by simp)
  ·
   refine AWp_skip ?_
   try simp only [thenQ, blockQ, noGotoQ]
   refine y0 _ ?_
   try clear y0 Y0
   refine AWp_seqK fun Y0 y0 => ?_
   refine AWp_region ?_
   refine aops_chunk 1 fun Q0 q0 => ?_
   simp only [↓bO, go_sem, seval]
   refine q0 _ ?_
   clear q0 Q0
   simp only [go_sem]
   refine aops_chunk 1 fun Q0 q0 => ?_
   simp only [↓bO, go_sem, seval]
   refine APure.call (by have h9 := Text_pure T hg hc; rw [Ty.cells_eq T] at h9; exact h9) ?_
   try simp only [bS, bA, thenQ, blockQ, noGotoQ]
   refine q0 _ ?_
   clear q0 Q0
   simp only [go_sem]
   simp only [↓bO, go_sem, seval]
   refine y0 _ ?_
   try clear y0 Y0
   refine AWp_ret ?_
   try simp only [thenQ, blockQ, noGotoQ, retQ, aRes, tupOf, bS, bA]
   exact Le.refl _
end Go.Proofs.YtnlonnnhofagaaaDoor
namespace Go.Proofs.YtnlonnnhofagaaaDoor
open Go Go.RowKit
set_option linter.unusedSimpArgs false
set_option linter.unusedVariables false
set_option linter.unnecessarySimpa false
def pl (x : List Vw) : Int := (x.length : Nat)
theorem pl_app (x y : List Vw) : pl (x ++ y) = pl x + pl y := by simp [pl]
theorem pl_cons (a : Vw) (y : List Vw) : pl (a :: y) = 1 + pl y := by simp [pl]; omega
theorem pl_nil : pl [] = 0 := rfl
theorem isT_vw {l : List Tok} {pre suf : List Vw} {x : Vw} (h : l.map vw = pre ++ x :: suf) (k : Int) (s : ByteArray) : isT l (pl pre) k s = (decide (x.1 = k) && decide (x.2 = s)) := by
  have h1 : (l.map vw)[pre.length]? = some x := by rw [h]; simp
  rw [List.getElem?_map] at h1
  cases h2 : l[pre.length]? with
  | none => rw [h2] at h1; cases h1
  | some t =>
    rw [h2] at h1
    simp only [Option.map_some, Option.some.injEq] at h1
    rw [isT_at (t := t) (by unfold pl; omega) (by unfold pl; simpa using h2), ← h1]
    rfl
def NoArr (suf : List Vw) : Prop := ∃ x r, suf = x :: r ∧ x ≠ (4, bArrow)
theorem noArr_at {l : List Tok} {pre suf : List Vw} (h : l.map vw = pre ++ suf) (hn : NoArr suf) : isT l (pl pre) 4 bArrow = false := by
  obtain ⟨x, r, rfl, hx⟩ := hn
  rw [isT_vw h]
  rw [Bool.and_eq_false_iff, decide_eq_false_iff_not, decide_eq_false_iff_not]
  by_cases h1 : x.1 = 4
  · right; intro h2; exact hx (Prod.ext h1 h2)
  · left; exact h1
section
variable (l : List Tok) (m : Int)
def RdOk (T : Ty) : Prop := ∀ (f : Nat) (pre suf : List Vw) (lv : Int), l.map vw = pre ++ (T.tk ++ suf) → NoArr suf → T.tk.length < f → lv + 2 * T.cnt ≤ m → rd l m f none (pl pre) lv = (T, pl (pre ++ T.tk), 0)
def BsOk (d : Int) (T : Ty) : Prop := ∀ (f : Nat) (pre suf : List Vw) (lv : Int), l.map vw = pre ++ (T.btk ++ suf) → T.btk.length ≤ f → lv + 2 * T.cnt + d ≤ m → bsR l m f (pl pre) lv = (T, pl (pre ++ T.btk), 0)
def RbOk (d : Int) (T : Ty) : Prop := ∀ (f : Nat) (pre suf : List Vw) (lv : Int), l.map vw = pre ++ (T.btk ++ suf) → NoArr suf → T.btk.length < f → lv + 2 * T.cnt + d ≤ m → rd l m f none (pl pre) lv = (T, pl (pre ++ T.btk), 0)
variable {l m}
theorem BsOk.rb {d : Int} (hd : 0 ≤ d) {T : Ty} (h : BsOk l m d T) : RbOk l m d T := fun f pre suf lv hl hn hf hm => by
  obtain ⟨g, rfl⟩ : ∃ g, f = g + 1 := ⟨f - 1, by omega⟩
  have hc := cnt_pos' T
  rw [rd_none, if_neg (by omega), h g pre suf lv hl (by omega) hm]
  have h1 := noArr_at (l := l) (pre := pre ++ T.btk) (suf := suf) (by rw [hl, List.append_assoc]) hn
  unfold arR
  rw [if_pos rfl]
  simp only [h1]
  rfl
theorem some_ok : ∀ (qs ps : List Ty) (f : Nat) (pre suf : List Vw) (lv : Int), (∀ q ∈ qs, RbOk l m 1 q ∧ lv + 2 * q.cnt + 1 ≤ m) → ps.length + qs.length ≤ 8 → l.map vw = pre ++ (flT (qs.map Ty.btk) ++ (4, bClose) :: suf) →
    (flT (qs.map Ty.btk)).length < f → rd l m f (some ps) (pl pre) lv = (tupP (ps ++ qs), pl (pre ++ (flT (qs.map Ty.btk) ++ [(4, bClose)])), 0)
  | [], ps, f, pre, suf, lv, hq, h8, hl, hf => by
    obtain ⟨g, rfl⟩ : ∃ g, f = g + 1 := ⟨f - 1, by omega⟩
    simp only [List.map_nil, flT, List.flatMap_nil, List.nil_append] at hl hf ⊢
    rw [rd_some, isT_vw hl]
    simp [pl_app, pl_cons, pl_nil]
  | q :: qs, ps, f, pre, suf, lv, hq, h8, hl, hf => by
    obtain ⟨g, rfl⟩ : ∃ g, f = g + 1 := ⟨f - 1, by omega⟩
    have e : flT ((q :: qs).map Ty.btk) = (4, bStar) :: (q.btk ++ flT (qs.map Ty.btk)) := by simp [flT]
    rw [e] at hl hf ⊢
    simp only [List.cons_append, List.append_assoc, List.length_cons, List.length_append] at hl hf
    obtain ⟨h1, h2⟩ := hq q (by simp)
    rw [rd_some, isT_vw hl, isT_vw hl]
    simp only [List.length_cons] at h8
    have hno : NoArr (flT (qs.map Ty.btk) ++ (4, bClose) :: suf) := by
      cases qs with
      | nil => exact ⟨_, _, rfl, by decide⟩
      | cons q qs => exact ⟨_, _, rfl, by decide⟩
    have hl2 : l.map vw = (pre ++ [(4, bStar)]) ++ (q.btk ++ (flT (qs.map Ty.btk) ++ (4, bClose) :: suf)) := by rw [hl]; simp
    have h3 := h1 g (pre ++ [(4, bStar)]) _ lv hl2 hno (by omega) h2
    have e1 : pl pre + 1 = pl (pre ++ [((4 : Int), bStar)]) := by rw [pl_app]; rfl
    rw [if_neg (by decide), if_pos (by decide), if_neg (by omega), e1, h3, if_pos rfl]
    have hl3 : l.map vw = (pre ++ [(4, bStar)] ++ q.btk) ++ (flT (qs.map Ty.btk) ++ (4, bClose) :: suf) := by rw [hl]; simp
    have h4 := some_ok qs (ps ++ [q]) g _ suf lv (fun r hr => hq r (by simp [hr])) (by simp; omega) hl3 (by omega)
    rw [h4]
    simp [pl_app, pl_cons, pl_nil]
theorem one_gd {T : Ty} (hk : ¬ T.k = 4) (h : BsOk l m 0 T) : RdOk l m T ∧ BsOk l m 1 T := by
  refine ⟨fun f pre suf lv hl hn hf hm => ?_, fun f pre suf lv hl hf hm => h f pre suf lv hl hf (by omega)⟩
  have h1 := h.rb (by omega) f pre suf lv
  rw [btk_of hk] at h1
  exact h1 hl hn hf (by omega)
theorem read_gd {T : Ty} (h : T.Gd) : RdOk l m T ∧ BsOk l m 1 T := by
  induction h with
  | int =>
    refine one_gd (by decide) fun f pre suf lv hl hf hm => ?_
    rw [btk_of (by decide), tk_int] at hl ⊢
    unfold bsR
    rw [isT_vw hl, if_pos (by decide), pl_app]
    rfl
  | bool =>
    refine one_gd (by decide) fun f pre suf lv hl hf hm => ?_
    rw [btk_of (by decide), tk_bool] at hl ⊢
    unfold bsR
    rw [isT_vw hl, isT_vw hl, if_neg (by decide), if_pos (by decide), pl_app]
    rfl
  | @fn a b ha hb iha ihb =>
    have hc : (Ty.mk 4 0 [a, b]).cnt = 1 + (a.cnt + b.cnt) := by rw [cnt_mk]; simp [Ty.cntL]
    have hca := cnt_pos' a
    have hcb := cnt_pos' b
    have hr : RdOk l m (.mk 4 0 [a, b]) := fun f pre suf lv hl hn hf hm => by
      rw [tk_fn] at hl hf ⊢
      simp only [List.length_append, List.length_cons] at hf
      obtain ⟨g, rfl⟩ : ∃ g, f = g + 1 := ⟨f - 1, by omega⟩
      have hl1 : l.map vw = pre ++ (a.btk ++ ((4, bArrow) :: (b.tk ++ suf))) := by rw [hl]; simp
      have hl2 : l.map vw = (pre ++ a.btk) ++ (4, bArrow) :: (b.tk ++ suf) := by rw [hl]; simp
      have hl3 : l.map vw = ((pre ++ a.btk) ++ [(4, bArrow)]) ++ (b.tk ++ suf) := by rw [hl]; simp
      rw [rd_none, if_neg (by omega), iha.2 g pre _ lv hl1 (by omega) (by omega)]
      have h1 := ihb.1 g _ suf (lv + 1) hl3 hn (by omega) (by omega)
      have e1 : pl (pre ++ a.btk) + 1 = pl ((pre ++ a.btk) ++ [((4 : Int), bArrow)]) := by rw [pl_app (pre ++ a.btk)]; rfl
      unfold arR
      rw [if_pos rfl]
      simp only
      rw [isT_vw hl2, if_pos (by decide), e1, h1, if_pos rfl]
      simp
    refine ⟨hr, fun f pre suf lv hl hf hm => ?_⟩
    rw [btk_fn] at hl hf ⊢
    simp only [List.length_append, List.length_cons, List.length_nil] at hf
    have hl1 : l.map vw = pre ++ (4, bOpen) :: ((Ty.mk 4 0 [a, b]).tk ++ (4, bClose) :: suf) := by rw [hl]; simp
    have hl2 : l.map vw = (pre ++ [(4, bOpen)]) ++ ((Ty.mk 4 0 [a, b]).tk ++ (4, bClose) :: suf) := by rw [hl]; simp
    have hl3 : l.map vw = (pre ++ [(4, bOpen)] ++ (Ty.mk 4 0 [a, b]).tk) ++ (4, bClose) :: suf := by rw [hl]; simp
    have h1 := hr f _ _ (lv + 1) hl2 ⟨_, _, rfl, by decide⟩ (by omega) (by omega)
    have e1 : pl pre + 1 = pl (pre ++ [((4 : Int), bOpen)]) := by rw [pl_app]; rfl
    unfold bsR
    rw [isT_vw hl1, isT_vw hl1, isT_vw hl1, if_neg (by decide), if_neg (by decide), if_pos (by decide)]
    unfold lsR
    rw [e1, h1, if_pos rfl]
    obtain ⟨g, rfl⟩ : ∃ g, f = g + 1 := ⟨f - 1, by omega⟩
    simp only
    rw [rd_some, isT_vw hl3, if_pos (by decide)]
    simp only [tupP, pl_app, pl_cons, pl_nil]
    simp; omega
  | @tup ps h2 h8 h ih =>
    refine one_gd (show ¬ (5 : Int) = 4 by decide) fun f pre suf lv hl hf hm => ?_
    rw [btk_of (t := .mk 5 0 ps) (show ¬ (5 : Int) = 4 by decide), tk_tup] at hl ⊢
    rw [btk_of (t := .mk 5 0 ps) (show ¬ (5 : Int) = 4 by decide), tk_tup] at hf
    have hc : (Ty.mk 5 0 ps).cnt = 1 + Ty.cntL ps := cnt_mk 5 0 ps
    have hcl : ∀ qs : List Ty, ∀ q ∈ qs, q.cnt ≤ Ty.cntL qs := by
      intro qs
      induction qs with
      | nil => intro q hq; cases hq
      | cons r qs ihq =>
        intro q hq
        rw [Ty.cntL]
        rcases List.mem_cons.1 hq with rfl | hq
        · omega
        · have := ihq q hq; omega
    have hq : ∀ q ∈ ps, RbOk l m 1 q ∧ lv + 1 + 2 * q.cnt + 1 ≤ m := fun q hq => ⟨(ih q hq).2.rb (by omega), by have := hcl ps q hq; omega⟩
    match ps, h2, h8, hq, hl, hf with
    | p :: qs, h2, h8, hq, hl, hf =>
      simp only [List.map_cons, joinT, List.cons_append, List.append_assoc, List.length_cons, List.length_append, List.length_nil] at hl hf ⊢
      have hl2 : l.map vw = (pre ++ [(4, bOpen)]) ++ (p.btk ++ (flT (qs.map Ty.btk) ++ (4, bClose) :: suf)) := by rw [hl]; simp
      have hl3 : l.map vw = (pre ++ [(4, bOpen)] ++ p.btk) ++ (flT (qs.map Ty.btk) ++ (4, bClose) :: suf) := by rw [hl]; simp
      have hno : NoArr (flT (qs.map Ty.btk) ++ (4, bClose) :: suf) := by
        cases qs with
        | nil => exact ⟨_, _, rfl, by decide⟩
        | cons q qs => exact ⟨_, _, rfl, by decide⟩
      obtain ⟨hp1, hp2⟩ := hq p (by simp)
      have h1 := hp1 f _ _ (lv + 1) hl2 hno (by omega) hp2
      have h3 := some_ok qs [p] f _ suf (lv + 1) (fun r hr => hq r (by simp [hr])) (by simp at h8 ⊢; omega) hl3 (by omega)
      have e1 : pl pre + 1 = pl (pre ++ [((4 : Int), bOpen)]) := by rw [pl_app]; rfl
      unfold bsR
      rw [isT_vw hl, isT_vw hl, isT_vw hl, if_neg (by decide), if_neg (by decide), if_pos (by decide)]
      unfold lsR
      rw [e1, h1, if_pos rfl, h3]
      match qs, h2 with
      | q :: qs, _ =>
        simp only [tupP, pl_app, pl_cons, pl_nil, List.cons_append, List.nil_append]
        simp; omega
end
end Go.Proofs.YtnlonnnhofagaaaDoor
