/- Texts of the abstract walk, of the contracts and of the plain laws, packed (part 39 of 44): Sc9 Sc10 Sc11. Conditions: none. -/
import Derived.Test.YtheacaigeidflaaDoorPk38
set_option linter.unusedVariables false
set_option linter.unusedSimpArgs false
namespace Go.Proofs.YtheacaigeidflaaDoor
open Go Go.RowKit
set_option maxRecDepth 100000
set_option maxHeartbeats 4000000
set_option linter.unusedSimpArgs false
set_option linter.unusedVariables false
attribute [local irreducible] aops dRun
def Sch.rig (s : Sch) (v : Int) : Bool := !decide (v ∈ s.vs)
def instC (s : Sch) (t : Ty) : Bool := s.ok && t.right && (if s.free = [] then (s.t.match t []).1 else ((s.t.mark s.rig).cov (t.mark fun _ => true) []).1)
theorem SClose_pure (t : Ty) (ar : List Ty) (hc : t.cnt ≤ 1048576) (har : Ty.cntL ar ≤ 1048576) : APure Tryd.prog 10 [.agg t.cells, .sl 3 (ar.map Ty.cells)] (.agg (closeS t ar).cells) := by
  refine APure.mkL (.cons (Ty.dataAgg _) (.cons (Ty.dataSl _) .nil)) (Sch.agg) ?_
  refine ACalls_intro Tryd.func10 (by kernel_rfl) rfl (by rw [Tryd.ntmps10]; simp) (fun hm => ?_)
  simp only [Tryd.ntmps10, Tryd.results10, List.length_cons, List.length_nil, Nat.reduceAdd, Nat.reduceSub, List.replicate_succ, List.replicate_zero, List.cons_append, List.nil_append]
  have hrl := Ty.rvarsL_len ar []
  have htl := Ty.rvarsL_len [t] []
  simp only [List.length_nil, Ty.cntL] at hrl htl
  refine AWp_joinZ (mB 20 22) ([(2, .eptr t.cells), (4, .ptr 1 0)]) [(1, .cells 31 [.v (.slice none 0 0), .v (.int .i64 0), .v (.int .i64 0), .v (.slice none 0 0)])] 2 (True) ?_ (fun hC => ?_)
  ·
   refine AWp_region ?_
   refine aops_chunk 1 fun Q0 q0 => ?_
   simp only [↓bO, go_sem, seval, Sch.cells]
   refine q0 _ ?_
   clear q0 Q0
   simp only [go_sem]
   simp only [↓bO, go_sem, seval, Sch.cells]
   try simp only [maskL, setsL, putsO, putO, mB, List.set_cons_zero, List.set_cons_succ, seval]
   first | refine ⟨trivial, ?_⟩ | skip
   refine Weak.freeze ?_ ⟨rfl, trivial⟩ (by first | omega | (simp only; omega)) (by first | omega | (simp only; omega)) ?_ ?_
   · repeat' first | trivial | exact .inr ⟨_, _, _, rfl, rfl, rfl, rfl⟩ | exact .inl (.refl _) | exact .inl (.any _) | (refine ⟨?_, ?_⟩)
   · repeat' first | exact trivial | exact .any _ | exact .v _ _ | exact .ptr (by omega) | exact Und.data (dataInts _) | exact Und.data Sch.eptr | exact Und.data Sch.agg | exact Und.data (Ty.dataSl _) | exact Und.data (.eptr (Ty.data _)) | exact Und.data (.eptr (.cons (dataInts _) .nil)) | exact .own (by omega) | (refine ⟨?_, ?_⟩)
   · repeat' first | exact trivial | (with_reducible omega) | exact Und.rowI (iD_data _) | exact UndL.data (Ty.data _) | exact UndL.data (Sch.data _) | exact .v _ _ | (refine ⟨?_, ?_⟩)
  simp only [maskL, setsL, putsO, putO, mB, List.set_cons_zero, List.set_cons_succ, seval]
  refine AWp_seqK fun Y0 y0 => ?_
  refine AWp_seqK fun Y1 y1 => ?_
  refine AWp_region ?_
  refine aops_chunk 1 fun Q0 q0 => ?_
  simp only [↓bO, go_sem, seval, Sch.cells]
  refine q0 _ ?_
  clear q0 Q0
  simp only [go_sem]
  refine aops_chunk 1 fun Q0 q0 => ?_
  simp only [↓bO, go_sem, seval, Sch.cells]
  refine APure.call (Right_pure t) ?_
  try simp only [bS, bA, thenQ, blockQ, noGotoQ]
  refine q0 _ ?_
  clear q0 Q0
  simp only [go_sem]
  simp only [↓bO, go_sem, seval, Sch.cells]
  refine y1 _ ?_
  try clear y1 Y1
  refine AWp_cond rfl (fun hb8 => ?_) (fun hb8 => ?_)
  ·
   have hr : t.right = false := by simpa using hb8
   refine AWp_seqK fun Y1 y1 => ?_
   refine AWp_region ?_
   refine aops_chunk 1 fun Q0 q0 => ?_
   simp only [↓bO, go_sem, seval, Sch.cells]
   refine q0 _ ?_
   clear q0 Q0
   simp only [go_sem]
   simp only [↓bO, go_sem, seval, Sch.cells]
   refine y1 _ ?_
   try clear y1 Y1
   refine AWp_ret ?_
   try simp only [thenQ, blockQ, noGotoQ, retQ, aRes, tupOf, bS, bA, aLoad, getO, pack, bL, Nat.reduceAdd, Nat.reduceLeDiff, Nat.reduceEqDiff, ↓reduceIte, ti31, tyX, Sch.cells, List.length_map]
   unfold closeS
   rw [hr, if_neg (by decide)]
   exact zSch_le
  ·
   have hr : t.right = true := by simpa using hb8
   refine AWp_skip ?_
   try simp only [thenQ, blockQ, noGotoQ]
   refine y0 _ ?_
   try clear y0 Y0
   refine AWp_joinZ (mB 20 52) ([(5, .eptr [.sl 1 ((Ty.rvarsL ar []).map intC)])]) [(1, .cells 31 [.v (.slice none 0 0), .v (.int .i64 0), .v (.int .i64 0), .v (.slice none 0 0)])] 2 (True) ?_ (fun hC => ?_)
   ·
    refine AWp_region ?_
    refine aops_chunk 1 fun Q0 q0 => ?_
    simp only [↓bO, go_sem, seval, Sch.cells]
    refine q0 _ ?_
    clear q0 Q0
    simp only [go_sem]
    refine aops_chunk 1 fun Q0 q0 => ?_
    simp only [↓bO, go_sem, seval, Sch.cells]
    refine APure.call (Vars_pure ar (by omega)) ?_
    try simp only [bS, bA, thenQ, blockQ, noGotoQ]
    refine q0 _ ?_
    clear q0 Q0
    simp only [go_sem]
    refine aops_chunk 1 fun Q0 q0 => ?_
    simp only [↓bO, go_sem, seval, Sch.cells]
    refine q0 _ ?_
    clear q0 Q0
    simp only [go_sem]
    simp only [↓bO, go_sem, seval, Sch.cells]
    try simp only [maskL, setsL, putsO, putO, mB, List.set_cons_zero, List.set_cons_succ, seval]
    first | refine ⟨trivial, ?_⟩ | skip
    refine Weak.freeze ?_ ⟨rfl, trivial⟩ (by first | omega | (simp only; omega)) (by first | omega | (simp only; omega)) ?_ ?_
    · repeat' first | trivial | exact .inr ⟨_, _, _, rfl, rfl, rfl, rfl⟩ | exact .inl (.refl _) | exact .inl (.any _) | (refine ⟨?_, ?_⟩)
    · repeat' first | exact trivial | exact .any _ | exact .v _ _ | exact .ptr (by omega) | exact Und.data (dataInts _) | exact Und.data Sch.eptr | exact Und.data Sch.agg | exact Und.data (Ty.dataSl _) | exact Und.data (.eptr (Ty.data _)) | exact Und.data (.eptr (.cons (dataInts _) .nil)) | exact .own (by omega) | (refine ⟨?_, ?_⟩)
    · repeat' first | exact trivial | (with_reducible omega) | exact Und.rowI (iD_data _) | exact UndL.data (Ty.data _) | exact UndL.data (Sch.data _) | exact .v _ _ | (refine ⟨?_, ?_⟩)
   simp only [maskL, setsL, putsO, putO, mB, List.set_cons_zero, List.set_cons_succ, seval]
   refine AWp_seqK fun Y0 y0 => ?_
   refine NAny_start 9 [2, 5] rfl mixed ?_
   dsimp only
   refine NAny_takeK 0 rfl (by kernel_rfl) (by kernel_rfl) (by kernel_rfl) (fun _ _ h => h) (by kernel_rfl) (fun d h => by cases h; rfl) (by kernel_rfl) (G' := [12, 2, 5]) (by kernel_rfl) fun Q0 q0 => ?_
   simp only [↓bO, go_sem, seval, nHead, isE, isSE, isV, Sch.cells]
   refine q0 _ ?_
   clear q0 Q0
   refine NAny_takeK 5 rfl (by kernel_rfl) (by kernel_rfl) (by kernel_rfl) (fun _ _ h => h) (by kernel_rfl) (fun d h => by cases h; rfl) (by kernel_rfl) (G' := [17, 12, 2, 5]) (by kernel_rfl) fun Q0 q0 => ?_
   simp only [↓bO, go_sem, seval, nHead, isE, isSE, isV, Sch.cells]
   refine q0 _ ?_
   clear q0 Q0
   refine NAny_all2 (i := 1) (j := 3) (by kernel_rfl) rfl rfl (fun d h => by cases h; rfl) (fun d h => by cases h; rfl) ?_ ?_
   ·
    refine aAt_op rfl rfl fun Q0 q0 => ?_
    simp only [↓bO, go_sem, seval, ↓bs1_1, ↓bs1_2, ↓bs1_3, ↓bs1_4, ↓bs1_5, ↓bs1_6, ↓bs1_7, ↓bs1_8, ↓bs1_9, ↓bs1_10, ↓bs1_11, ↓bs1_12, Sch.cells]
    refine q0 _ ⟨⟨rfl, rfl, rfl, rfl, trivial⟩, ?_⟩
    clear q0 Q0
    refine NAny_all2 (i := 2) (j := 3) (by kernel_rfl) rfl rfl (fun d h => by cases h; rfl) (fun d h => by cases h; rfl) ?_ ?_
    ·
     refine aAt_op rfl rfl fun Q0 q0 => ?_
     simp only [↓bO, go_sem, seval, Sch.cells]
     refine ACalls.fresh (R' := .own 2 (Ty.rvarsL [t] []).length) (os1' := [(2, .row 3 1 ((Ty.rvarsL [t] []).map intC))]) (OVars_calls [t] (by simp only [Ty.cntL]; omega)) (.cons (show Data (.sl 3 [t.cells]) from Ty.dataSl [t]) .nil) (.own rfl) (by simp) ⟨rfl, .row (iD_data _), trivial⟩ ?_
     simp only [List.cons_append, List.nil_append]
     try simp only [bS, bA]
     refine q0 _ ⟨⟨rfl, rfl, rfl, rfl, trivial⟩, ?_⟩
     clear q0 Q0
     refine NAny_all1 (i := 3) (by kernel_rfl) rfl (fun d h => by cases h; rfl) ?_
     refine aAt_op rfl rfl fun Q0 q0 => ?_
     simp only [↓bO, go_sem, seval, Sch.cells]
     refine q0 _ ⟨⟨rfl, rfl, rfl, rfl, trivial⟩, ?_⟩
     clear q0 Q0
     refine NAny_all1 (i := 4) (by kernel_rfl) rfl (fun d h => by cases h; rfl) ?_
     refine aAt_op rfl rfl fun Q0 q0 => ?_
     simp only [↓bO, go_sem, seval, Sch.cells]
     refine ACalls.eats (DelF_calls (Ty.rvarsL [t] []) 35 [.eptr [.sl 1 ((Ty.rvarsL ar []).map intC)]] (fun v => decide (v ∈ (Ty.rvarsL ar []))) (by omega) (.cons (.eptr (.cons (dataInts _) .nil)) .nil) (fun v _ => Close1_pure (Ty.rvarsL ar []) v (by omega))) (by first | omega | (simp only; omega)) ⟨.own rfl, .data (.clo (.cons (.eptr (.cons (dataInts _) .nil)) .nil)), trivial⟩ (dataInts _) rfl (.row (iD_data _)) ?_
     simp only [delO, List.filter_cons, List.filter_nil, Nat.reduceBEq, Bool.not_true, Bool.not_false, ↓reduceIte, Bool.false_eq_true]
     try simp only [bS, bA]
     refine q0 _ ⟨⟨rfl, rfl, rfl, rfl, trivial⟩, ?_⟩
     clear q0 Q0
     refine NAny_all1 (i := 6) (by kernel_rfl) rfl (fun d h => by cases h; rfl) ?_
     refine aAt_op rfl rfl fun Q0 q0 => ?_
     simp only [↓bO, go_sem, seval, Sch.cells]
     refine APure.call (Copy_pure t (by omega)) ?_
     try simp only [bS, bA]
     refine q0 _ ⟨⟨rfl, rfl, rfl, rfl, trivial⟩, ?_⟩
     clear q0 Q0
     refine NAny_all1 (i := 7) (by kernel_rfl) rfl (fun d h => by cases h; rfl) ?_
     refine aAt_op rfl rfl fun Q0 q0 => ?_
     simp only [↓bO, go_sem, seval, Sch.cells]
     refine q0 _ ⟨⟨rfl, rfl, rfl, rfl, trivial⟩, ?_⟩
     clear q0 Q0
     refine NAny_all1 (i := 8) (by kernel_rfl) rfl (fun d h => by cases h) ?_
     refine aAt_op rfl rfl fun Q0 q0 => ?_
     simp only [↓bO, go_sem, seval, Sch.cells]
     refine q0 _ ⟨⟨rfl, rfl, rfl, rfl, trivial⟩, ?_⟩
     clear q0 Q0
     refine NAny_done (by kernel_rfl) ?_
     simp only [thenQ, blockQ, noGotoQ]
     refine y0 _ ?_
     try clear y0 Y0
     refine AWp_ret ?_
     try simp only [thenQ, blockQ, noGotoQ, retQ, aRes, tupOf, bS, bA, aLoad, getO, pack, bL, Nat.reduceAdd, Nat.reduceLeDiff, Nat.reduceEqDiff, ↓reduceIte, ti31, tyX, Sch.cells, List.length_map]
     unfold closeS
     rw [if_pos hr]
     exact Le.refl _
    ·
     refine aAt_op rfl rfl fun Q0 q0 => ?_
     simp only [↓bO, go_sem, seval, Sch.cells]
     refine q0 _ ⟨⟨rfl, rfl, rfl, rfl, trivial⟩, ?_⟩
     clear q0 Q0
     refine NAny_all1 (i := 2) (by kernel_rfl) rfl (fun d h => by cases h; rfl) ?_
     refine aAt_op rfl rfl fun Q0 q0 => ?_
     simp only [↓bO, go_sem, seval, Sch.cells]
     refine ACalls.fresh (R' := .own 2 (Ty.rvarsL [t] []).length) (os1' := [(2, .row 3 1 ((Ty.rvarsL [t] []).map intC))]) (OVars_calls [t] (by simp only [Ty.cntL]; omega)) (.cons (show Data (.sl 3 [t.cells]) from Ty.dataSl [t]) .nil) (.own rfl) (by simp) ⟨rfl, .row (iD_data _), trivial⟩ ?_
     simp only [List.cons_append, List.nil_append]
     try simp only [bS, bA]
     refine q0 _ ⟨⟨rfl, rfl, rfl, rfl, trivial⟩, ?_⟩
     clear q0 Q0
     refine NAny_all1 (i := 4) (by kernel_rfl) rfl (fun d h => by cases h; rfl) ?_
     refine aAt_op rfl rfl fun Q0 q0 => ?_
     simp only [↓bO, go_sem, seval, Sch.cells]
     refine ACalls.eats (DelF_calls (Ty.rvarsL [t] []) 35 [.eptr [.sl 1 ((Ty.rvarsL ar []).map intC)]] (fun v => decide (v ∈ (Ty.rvarsL ar []))) (by omega) (.cons (.eptr (.cons (dataInts _) .nil)) .nil) (fun v _ => Close1_pure (Ty.rvarsL ar []) v (by omega))) (by first | omega | (simp only; omega)) ⟨.own rfl, .data (.clo (.cons (.eptr (.cons (dataInts _) .nil)) .nil)), trivial⟩ (dataInts _) rfl (.row (iD_data _)) ?_
     simp only [delO, List.filter_cons, List.filter_nil, Nat.reduceBEq, Bool.not_true, Bool.not_false, ↓reduceIte, Bool.false_eq_true]
     try simp only [bS, bA]
     refine q0 _ ⟨⟨rfl, rfl, rfl, rfl, trivial⟩, ?_⟩
     clear q0 Q0
     refine NAny_all1 (i := 6) (by kernel_rfl) rfl (fun d h => by cases h; rfl) ?_
     refine aAt_op rfl rfl fun Q0 q0 => ?_
     simp only [↓bO, go_sem, seval, Sch.cells]
     refine APure.call (Copy_pure t (by omega)) ?_
     try simp only [bS, bA]
     refine q0 _ ⟨⟨rfl, rfl, rfl, rfl, trivial⟩, ?_⟩
     clear q0 Q0
     refine NAny_all1 (i := 7) (by kernel_rfl) rfl (fun d h => by cases h; rfl) ?_
     refine aAt_op rfl rfl fun Q0 q0 => ?_
     simp only [↓bO, go_sem, seval, Sch.cells]
     refine q0 _ ⟨⟨rfl, rfl, rfl, rfl, trivial⟩, ?_⟩
     clear q0 Q0
     refine NAny_all1 (i := 8) (by kernel_rfl) rfl (fun d h => by cases h) ?_
     refine aAt_op rfl rfl fun Q0 q0 => ?_
     simp only [↓bO, go_sem, seval, Sch.cells]
     refine q0 _ ⟨⟨rfl, rfl, rfl, rfl, trivial⟩, ?_⟩
     clear q0 Q0
     refine NAny_done (by kernel_rfl) ?_
     simp only [thenQ, blockQ, noGotoQ]
     refine y0 _ ?_
     try clear y0 Y0
     refine AWp_ret ?_
     try simp only [thenQ, blockQ, noGotoQ, retQ, aRes, tupOf, bS, bA, aLoad, getO, pack, bL, Nat.reduceAdd, Nat.reduceLeDiff, Nat.reduceEqDiff, ↓reduceIte, ti31, tyX, Sch.cells, List.length_map]
     unfold closeS
     rw [if_pos hr]
     exact Le.refl _
   ·
    refine aAt_op rfl rfl fun Q0 q0 => ?_
    simp only [↓bO, go_sem, seval, Sch.cells]
    refine q0 _ ⟨⟨rfl, rfl, rfl, rfl, trivial⟩, ?_⟩
    clear q0 Q0
    refine NAny_all1 (i := 1) (by kernel_rfl) rfl (fun d h => by cases h; rfl) ?_
    refine aAt_op rfl rfl fun Q0 q0 => ?_
    simp only [↓bO, go_sem, seval, ↓bs1_1, ↓bs1_2, ↓bs1_3, ↓bs1_4, ↓bs1_5, ↓bs1_6, ↓bs1_7, ↓bs1_8, ↓bs1_9, ↓bs1_10, ↓bs1_11, ↓bs1_12, Sch.cells]
    refine q0 _ ⟨⟨rfl, rfl, rfl, rfl, trivial⟩, ?_⟩
    clear q0 Q0
    refine NAny_all1 (i := 2) (by kernel_rfl) rfl (fun d h => by cases h; rfl) ?_
    refine aAt_op rfl rfl fun Q0 q0 => ?_
    simp only [↓bO, go_sem, seval, Sch.cells]
    refine ACalls.fresh (R' := .own 2 (Ty.rvarsL [t] []).length) (os1' := [(2, .row 3 1 ((Ty.rvarsL [t] []).map intC))]) (OVars_calls [t] (by simp only [Ty.cntL]; omega)) (.cons (show Data (.sl 3 [t.cells]) from Ty.dataSl [t]) .nil) (.own rfl) (by simp) ⟨rfl, .row (iD_data _), trivial⟩ ?_
    simp only [List.cons_append, List.nil_append]
    try simp only [bS, bA]
    refine q0 _ ⟨⟨rfl, rfl, rfl, rfl, trivial⟩, ?_⟩
    clear q0 Q0
    refine NAny_all1 (i := 4) (by kernel_rfl) rfl (fun d h => by cases h; rfl) ?_
    refine aAt_op rfl rfl fun Q0 q0 => ?_
    simp only [↓bO, go_sem, seval, Sch.cells]
    refine ACalls.eats (DelF_calls (Ty.rvarsL [t] []) 35 [.eptr [.sl 1 ((Ty.rvarsL ar []).map intC)]] (fun v => decide (v ∈ (Ty.rvarsL ar []))) (by omega) (.cons (.eptr (.cons (dataInts _) .nil)) .nil) (fun v _ => Close1_pure (Ty.rvarsL ar []) v (by omega))) (by first | omega | (simp only; omega)) ⟨.own rfl, .data (.clo (.cons (.eptr (.cons (dataInts _) .nil)) .nil)), trivial⟩ (dataInts _) rfl (.row (iD_data _)) ?_
    simp only [delO, List.filter_cons, List.filter_nil, Nat.reduceBEq, Bool.not_true, Bool.not_false, ↓reduceIte, Bool.false_eq_true]
    try simp only [bS, bA]
    refine q0 _ ⟨⟨rfl, rfl, rfl, rfl, trivial⟩, ?_⟩
    clear q0 Q0
    refine NAny_all1 (i := 6) (by kernel_rfl) rfl (fun d h => by cases h; rfl) ?_
    refine aAt_op rfl rfl fun Q0 q0 => ?_
    simp only [↓bO, go_sem, seval, Sch.cells]
    refine APure.call (Copy_pure t (by omega)) ?_
    try simp only [bS, bA]
    refine q0 _ ⟨⟨rfl, rfl, rfl, rfl, trivial⟩, ?_⟩
    clear q0 Q0
    refine NAny_all1 (i := 7) (by kernel_rfl) rfl (fun d h => by cases h; rfl) ?_
    refine aAt_op rfl rfl fun Q0 q0 => ?_
    simp only [↓bO, go_sem, seval, Sch.cells]
    refine q0 _ ⟨⟨rfl, rfl, rfl, rfl, trivial⟩, ?_⟩
    clear q0 Q0
    refine NAny_all1 (i := 8) (by kernel_rfl) rfl (fun d h => by cases h) ?_
    refine aAt_op rfl rfl fun Q0 q0 => ?_
    simp only [↓bO, go_sem, seval, Sch.cells]
    refine q0 _ ⟨⟨rfl, rfl, rfl, rfl, trivial⟩, ?_⟩
    clear q0 Q0
    refine NAny_done (by kernel_rfl) ?_
    simp only [thenQ, blockQ, noGotoQ]
    refine y0 _ ?_
    try clear y0 Y0
    refine AWp_ret ?_
    try simp only [thenQ, blockQ, noGotoQ, retQ, aRes, tupOf, bS, bA, aLoad, getO, pack, bL, Nat.reduceAdd, Nat.reduceLeDiff, Nat.reduceEqDiff, ↓reduceIte, ti31, tyX, Sch.cells, List.length_map]
    unfold closeS
    rw [if_pos hr]
    exact Le.refl _
theorem mRes_iff {T U : Ty} (h1 : T.right = true) (h2 : U.right = true) : decide ((mRes T U).2 = 0) = (T.match U []).1 := by
  unfold mRes
  rw [h1, h2]
  cases (T.match U []).1 <;> rfl
theorem SInst_pure (s : Sch) (t : Ty) (hc : s.t.cnt ≤ 1048576) (hv : s.vs.length ≤ 1048576) (ht : t.cnt ≤ 1048576) : APure Tryd.prog 22 [.agg s.cells, .agg t.cells] (.v (.bool (instC s t))) := by
  refine APure.mkL (.cons Sch.agg (.cons (Ty.dataAgg _) .nil)) (.v _) ?_
  refine ACalls_intro Tryd.func22 (by kernel_rfl) rfl (by rw [Tryd.ntmps22]; simp) (fun hm => ?_)
  simp only [Tryd.ntmps22, Tryd.results22, List.length_cons, List.length_nil, Nat.reduceAdd, Nat.reduceSub, List.replicate_succ, List.replicate_zero, List.cons_append, List.nil_append]
  refine AWp_joinZ (mB 40 12) ([(2, .eptr s.cells), (3, .eptr t.cells)]) [] 0 (True) ?_ (fun hC => ?_)
  ·
   refine AWp_region ?_
   iterate 2 (refine aops_chunk 1 fun Q0 q0 => ?_; simp only [↓bO, go_sem, seval, Sch.cells]; refine q0 _ ?_; clear q0 Q0; simp only [go_sem])
   simp only [↓bO, go_sem, seval, Sch.cells]
   try simp only [maskL, setsL, putsO, putO, mB, List.set_cons_zero, List.set_cons_succ, seval]
   first | refine ⟨trivial, ?_⟩ | skip
   refine Weak.freeze ?_ trivial (by first | omega | (simp only; omega)) (by first | omega | (simp only; omega)) ?_ ?_
   · repeat' first | trivial | exact .inr ⟨_, _, _, rfl, rfl, rfl, rfl⟩ | exact .inl (.refl _) | exact .inl (.any _) | (refine ⟨?_, ?_⟩)
   · repeat' first | exact trivial | exact .any _ | exact .v _ _ | exact .ptr (by omega) | exact Und.data (dataInts _) | exact Und.data Sch.eptr | exact Und.data Sch.agg | exact Und.data (Ty.dataSl _) | exact Und.data (.eptr (Ty.data _)) | exact Und.data (.eptr (.cons (dataInts _) .nil)) | exact .own (by omega) | (refine ⟨?_, ?_⟩)
   · repeat' first | exact trivial | (with_reducible omega) | exact Und.rowI (iD_data _) | exact UndL.data (Ty.data _) | exact UndL.data (Sch.data _) | exact .v _ _ | (refine ⟨?_, ?_⟩)
  simp only [maskL, setsL, putsO, putO, mB, List.set_cons_zero, List.set_cons_succ, seval]
  refine AWp_seqK fun Y0 y0 => ?_
  refine AWp_seqK fun Y1 y1 => ?_
  refine AWp_region ?_
  refine aops_chunk 1 fun Q0 q0 => ?_
  simp only [↓bO, go_sem, seval, Sch.cells]
  refine q0 _ ?_
  clear q0 Q0
  simp only [go_sem]
  refine aops_chunk 1 fun Q0 q0 => ?_
  simp only [↓bO, go_sem, seval, Sch.cells]
  refine APure.call (SRight_pure s hc (by omega)) ?_
  try simp only [bS, bA, thenQ, blockQ, noGotoQ]
  iterate 2 (refine q0 _ ?_; clear q0 Q0; simp only [go_sem]; refine aops_chunk 1 fun Q0 q0 => ?_; simp only [↓bO, go_sem, seval, Sch.cells])
  refine q0 _ ?_
  clear q0 Q0
  simp only [go_sem]
  refine aops_case 12 rfl (fun hc12 => ?_) (fun hc12 => ?_)
  ·
   simp only [List.set_cons_zero, List.set_cons_succ]
   have hok : s.ok = false := by (have h9 := hc12; simpa using h9)
   iterate 3 (refine aops_chunk 1 fun Q0 q0 => ?_; simp only [↓bO, go_sem, seval, Sch.cells]; refine q0 _ ?_; clear q0 Q0; simp only [go_sem])
   simp only [↓bO, go_sem, seval, Sch.cells]
   refine y1 _ ?_
   try clear y1 Y1
   refine AWp_cond (b := true) (by first | exact rfl | exact congrArg (fun b => AV.v (.bool b)) hb16) (fun _ => ?_) (fun h => (by cases h))
   refine AWp_seqK fun Y1 y1 => ?_
   refine AWp_region ?_
   simp only [↓bO, go_sem, seval, Sch.cells]
   refine y1 _ ?_
   try clear y1 Y1
   refine AWp_ret ?_
   try simp only [thenQ, blockQ, noGotoQ, retQ, aRes, tupOf, bS, bA]
   refine Le.of_eq (congrArg (fun b => AV.v (.bool b)) ?_)
   unfold instC
   rw [hok]; rfl
  ·
   simp only [List.set_cons_zero, List.set_cons_succ]
   have hok : s.ok = true := by (have h9 := hc12; simpa using h9)
   refine aops_chunk 1 fun Q0 q0 => ?_
   simp only [↓bO, go_sem, seval, Sch.cells]
   refine q0 _ ?_
   clear q0 Q0
   simp only [go_sem]
   refine aops_chunk 1 fun Q0 q0 => ?_
   simp only [↓bO, go_sem, seval, Sch.cells]
   refine APure.call (Right_pure t) ?_
   try simp only [bS, bA, thenQ, blockQ, noGotoQ]
   refine q0 _ ?_
   clear q0 Q0
   simp only [go_sem]
   refine aops_chunk 1 fun Q0 q0 => ?_
   simp only [↓bO, go_sem, seval, Sch.cells]
   refine q0 _ ?_
   clear q0 Q0
   simp only [go_sem]
   simp only [↓bO, go_sem, seval, Sch.cells]
   refine y1 _ ?_
   try clear y1 Y1
   refine AWp_cond rfl (fun hb16 => ?_) (fun hb16 => ?_)
   ·
    have htr : t.right = false := by (have h9 := hb16; simpa using h9)
    refine AWp_seqK fun Y1 y1 => ?_
    refine AWp_region ?_
    simp only [↓bO, go_sem, seval, Sch.cells]
    refine y1 _ ?_
    try clear y1 Y1
    refine AWp_ret ?_
    try simp only [thenQ, blockQ, noGotoQ, retQ, aRes, tupOf, bS, bA]
    refine Le.of_eq (congrArg (fun b => AV.v (.bool b)) ?_)
    unfold instC
    rw [hok, htr]; rfl
   ·
    have htr : t.right = true := by (have h9 := hb16; simpa using h9)
    refine AWp_skip ?_
    try simp only [thenQ, blockQ, noGotoQ]
    refine y0 _ ?_
    try clear y0 Y0
    refine AWp_seqK fun Y0 y0 => ?_
    refine AWp_seqK fun Y1 y1 => ?_
    refine AWp_region ?_
    refine aops_chunk 1 fun Q0 q0 => ?_
    simp only [↓bO, go_sem, seval, Sch.cells]
    refine q0 _ ?_
    clear q0 Q0
    simp only [go_sem]
    refine aops_chunk 1 fun Q0 q0 => ?_
    simp only [↓bO, go_sem, seval, Sch.cells]
    refine APure.call ((show APure Tryd.prog 19 [.agg s.cells] (.sl 1 (s.free.map intC)) from by have h9 := SFree_pure s hc (by omega); rw [if_pos hok] at h9; exact h9)) ?_
    try simp only [bS, bA, thenQ, blockQ, noGotoQ]
    refine q0 _ ?_
    clear q0 Q0
    simp only [go_sem]
    refine aops_chunk 1 fun Q0 q0 => ?_
    simp only [↓bO, go_sem, seval, Sch.cells]
    refine q0 _ ?_
    clear q0 Q0
    simp only [go_sem]
    simp only [↓bO, go_sem, seval, Sch.cells]
    refine y1 _ ?_
    try clear y1 Y1
    refine AWp_cond rfl (fun hb20 => ?_) (fun hb20 => ?_)
    ·
     have hfr : s.free = [] := by (have h9 := hb20; simp at h9; exact h9)
     refine AWp_seqK fun Y1 y1 => ?_
     refine AWp_region ?_
     iterate 3 (refine aops_chunk 1 fun Q0 q0 => ?_; simp only [↓bO, go_sem, seval, Sch.cells]; refine q0 _ ?_; clear q0 Q0; simp only [go_sem])
     refine aops_chunk 1 fun Q0 q0 => ?_
     simp only [↓bO, go_sem, seval, Sch.cells]
     refine APure.call (Match_pure s.t t (by omega) (by omega)) ?_
     try simp only [bS, bA, thenQ, blockQ, noGotoQ]
     iterate 4 (refine q0 _ ?_; clear q0 Q0; simp only [go_sem]; refine aops_chunk 1 fun Q0 q0 => ?_; simp only [↓bO, go_sem, seval, Sch.cells])
     refine q0 _ ?_
     clear q0 Q0
     simp only [go_sem]
     simp only [↓bO, go_sem, seval, Sch.cells]
     refine y1 _ ?_
     try clear y1 Y1
     refine AWp_seqK fun Y1 y1 => ?_
     refine AWp_region ?_
     iterate 2 (refine aops_chunk 1 fun Q0 q0 => ?_; simp only [↓bO, go_sem, seval, Sch.cells]; refine q0 _ ?_; clear q0 Q0; simp only [go_sem])
     simp only [↓bO, go_sem, seval, Sch.cells]
     refine y1 _ ?_
     try clear y1 Y1
     refine AWp_ret ?_
     try simp only [thenQ, blockQ, noGotoQ, retQ, aRes, tupOf, bS, bA]
     refine Le.of_eq (congrArg (fun b => AV.v (.bool b)) ?_)
     unfold instC
     rw [hok, htr, if_pos hfr, ← mRes_iff (Sch.ok_iff.1 hok).1 htr]; rfl
    ·
     have hfr : ¬ s.free = [] := by (have h9 := hb20; simp at h9; exact h9)
     refine AWp_skip ?_
     try simp only [thenQ, blockQ, noGotoQ]
     refine y0 _ ?_
     try clear y0 Y0
     refine AWp_joinZ (mB 40 384) ([(7, .eptr (s.t.mark s.rig).cells), (8, .eptr (t.mark fun _ => true).cells)]) [] 0 (True) ?_ (fun hC => ?_)
     ·
      refine AWp_region ?_
      iterate 2 (refine aops_chunk 1 fun Q0 q0 => ?_; simp only [↓bO, go_sem, seval, Sch.cells]; refine q0 _ ?_; clear q0 Q0; simp only [go_sem])
      refine aops_chunk 1 fun Q0 q0 => ?_
      simp only [↓bO, go_sem, seval, Sch.cells]
      refine APure.call ((show APure Tryd.prog 46 [.agg s.cells, .agg t.cells] (.tup [.agg (s.t.mark s.rig).cells, .agg (t.mark fun _ => true).cells]) from rigid_pure s t hv hc ht)) ?_
      try simp only [bS, bA, thenQ, blockQ, noGotoQ]
      iterate 6 (refine q0 _ ?_; clear q0 Q0; simp only [go_sem]; refine aops_chunk 1 fun Q0 q0 => ?_; simp only [↓bO, go_sem, seval, Sch.cells])
      refine q0 _ ?_
      clear q0 Q0
      simp only [go_sem]
      simp only [↓bO, go_sem, seval, Sch.cells]
      try simp only [maskL, setsL, putsO, putO, mB, List.set_cons_zero, List.set_cons_succ, seval]
      first | refine ⟨trivial, ?_⟩ | skip
      refine Weak.freeze ?_ trivial (by first | omega | (simp only; omega)) (by first | omega | (simp only; omega)) ?_ ?_
      · repeat' first | trivial | exact .inr ⟨_, _, _, rfl, rfl, rfl, rfl⟩ | exact .inl (.refl _) | exact .inl (.any _) | (refine ⟨?_, ?_⟩)
      · repeat' first | exact trivial | exact .any _ | exact .v _ _ | exact .ptr (by omega) | exact Und.data (dataInts _) | exact Und.data Sch.eptr | exact Und.data Sch.agg | exact Und.data (Ty.dataSl _) | exact Und.data (.eptr (Ty.data _)) | exact Und.data (.eptr (.cons (dataInts _) .nil)) | exact .own (by omega) | (refine ⟨?_, ?_⟩)
      · repeat' first | exact trivial | (with_reducible omega) | exact Und.rowI (iD_data _) | exact UndL.data (Ty.data _) | exact UndL.data (Sch.data _) | exact .v _ _ | (refine ⟨?_, ?_⟩)
     simp only [maskL, setsL, putsO, putO, mB, List.set_cons_zero, List.set_cons_succ, seval]
     refine AWp_seqK fun Y0 y0 => ?_
     refine AWp_region ?_
     iterate 3 (refine aops_chunk 1 fun Q0 q0 => ?_; simp only [↓bO, go_sem, seval, Sch.cells]; refine q0 _ ?_; clear q0 Q0; simp only [go_sem])
     refine aops_chunk 1 fun Q0 q0 => ?_
     simp only [↓bO, go_sem, seval, Sch.cells]
     refine MCalls.at (m := []) (cov_calls (s.t.mark s.rig) (t.mark fun _ => true) []) (.cons (Ty.dataAgg _) (.cons (Ty.dataAgg _) .nil)) (.v _) (i := 0) rfl (by first | omega | (simp only; omega)) ?_
     simp only [putO, Nat.reduceEqDiff, ↓reduceIte]
     try simp only [bS, bA, thenQ, blockQ, noGotoQ]
     refine q0 _ ?_
     clear q0 Q0
     simp only [go_sem]
     simp only [↓bO, go_sem, seval, Sch.cells]
     refine y0 _ ?_
     try clear y0 Y0
     refine AWp_ret ?_
     try simp only [thenQ, blockQ, noGotoQ, retQ, aRes, tupOf, bS, bA]
     refine Le.of_eq (congrArg (fun b => AV.v (.bool b)) ?_)
     unfold instC
     rw [hok, htr, if_neg hfr]; rfl
theorem Ty.same_reflS (t : Ty) : t.same t = true := (Ty.same_iff _ _).2 rfl
theorem zSch_data : Data (.agg [.v (.slice none 0 0), .v (.int .i64 0), .v (.int .i64 0), .v (.slice none 0 0)]) := .agg (.cons (.v _) (.cons (.v _) (.cons (.v _) (.cons (.v _) .nil))))
theorem Sch.great_spec {s : Sch} (h : s.great = false) : s.t.cnt ≤ 300 ∧ s.vs.length ≤ 40 := by
  unfold Sch.great at h
  rw [Bool.or_eq_false_iff, decide_eq_false_iff_not] at h
  exact ⟨Ty.great_cnt h.1, by omega⟩
theorem cntL_small : ∀ {l : List Ty}, (∀ p ∈ l, p.great = false) → Ty.cntL l ≤ 300 * l.length
  | [], _ => by simp [Ty.cntL]
  | p :: l, h => by
    have h1 := Ty.great_cnt (h p (by simp))
    have h2 := cntL_small (l := l) fun q hq => h q (by simp [hq])
    simp only [Ty.cntL, List.length_cons]
    omega
theorem SchemeCloses_pure (s : Sch) (ar : List Ty) (hA : APure Tryd.prog 8 [] (.v (.bool true))) : APure Tryd.prog 3 [.agg s.cells, .sl 3 (ar.map Ty.cells)] (.v (.bool true)) := by
  refine APure.mkL (.cons Sch.agg (.cons (Ty.dataSl _) .nil)) (.v _) ?_
  refine ACalls_intro Tryd.func3 (by kernel_rfl) rfl (by rw [Tryd.ntmps3]; simp) (fun hm => ?_)
  simp only [Tryd.ntmps3, Tryd.results3, List.length_cons, List.length_nil, Nat.reduceAdd, Nat.reduceSub, List.replicate_succ, List.replicate_zero, List.cons_append, List.nil_append]
  refine AWp_joinZ (mB 77 6) ([(2, .eptr s.cells)]) [] 0 (True) ?_ (fun hC => ?_)
  ·
   refine AWp_region ?_
   refine aops_chunk 1 fun Q0 q0 => ?_
   simp only [↓bO, go_sem, seval, Sch.cells]
   refine q0 _ ?_
   clear q0 Q0
   simp only [go_sem]
   simp only [↓bO, go_sem, seval, Sch.cells]
   try simp only [maskL, setsL, putsO, putO, mB, List.set_cons_zero, List.set_cons_succ, seval]
   first | refine ⟨trivial, ?_⟩ | skip
   refine Weak.freeze ?_ trivial (by first | omega | (simp only; omega)) (by first | omega | (simp only; omega)) ?_ ?_
   · repeat' first | trivial | exact .inr ⟨_, _, _, rfl, rfl, rfl, rfl⟩ | exact .inl (.refl _) | exact .inl (.any _) | (refine ⟨?_, ?_⟩)
   · repeat' first | exact trivial | exact .any _ | exact .v _ _ | exact .ptr (by omega) | exact Und.data (dataInts _) | exact Und.data Sch.eptr | exact Und.data Sch.agg | exact Und.data (Ty.dataSl _) | exact Und.data (.eptr (Ty.data _)) | exact Und.data (.eptr (.cons (dataInts _) .nil)) | exact .own (by omega) | (refine ⟨?_, ?_⟩)
   · repeat' first | exact trivial | (with_reducible omega) | exact Und.rowI (iD_data _) | exact UndL.data (Ty.data _) | exact UndL.data (Sch.data _) | exact .v _ _ | (refine ⟨?_, ?_⟩)
  simp only [maskL, setsL, putsO, putO, mB, List.set_cons_zero, List.set_cons_succ, seval]
  refine AWp_seqK fun Y0 y0 => ?_
  refine AWp_seqK fun Y1 y1 => ?_
  refine AWp_region ?_
  refine aops_chunk 1 fun Q0 q0 => ?_
  simp only [↓bO, go_sem, seval, Sch.cells]
  refine q0 _ ?_
  clear q0 Q0
  simp only [go_sem]
  refine aops_chunk 1 fun Q0 q0 => ?_
  simp only [↓bO, go_sem, seval, Sch.cells]
  refine APure.call (Great16_pure s) ?_
  try simp only [bS, bA, thenQ, blockQ, noGotoQ]
  refine q0 _ ?_
  clear q0 Q0
  simp only [go_sem]
  refine aops_chunk 1 fun Q0 q0 => ?_
  simp only [↓bO, go_sem, seval, Sch.cells]
  refine q0 _ ?_
  clear q0 Q0
  simp only [go_sem]
  refine aops_case 11 rfl (fun hc11 => ?_) (fun hc11 => ?_)
  ·
   simp only [List.set_cons_zero, List.set_cons_succ]
   iterate 3 (refine aops_chunk 1 fun Q0 q0 => ?_; simp only [↓bO, go_sem, seval, Sch.cells]; refine q0 _ ?_; clear q0 Q0; simp only [go_sem])
   simp only [↓bO, go_sem, seval, Sch.cells]
   refine y1 _ ?_
   try clear y1 Y1
   refine AWp_cond (b := true) (by first | exact rfl | exact congrArg (fun b => AV.v (.bool b)) hb15) (fun _ => ?_) (fun h => (by cases h))
   refine AWp_seqK fun Y1 y1 => ?_
   refine AWp_region ?_
   refine aops_chunk 1 fun Q0 q0 => ?_
   simp only [↓bO, go_sem, seval, Sch.cells]
   refine APure.call (hA) ?_
   try simp only [bS, bA, thenQ, blockQ, noGotoQ]
   refine q0 _ ?_
   clear q0 Q0
   simp only [go_sem]
   simp only [↓bO, go_sem, seval, Sch.cells]
   refine y1 _ ?_
   try clear y1 Y1
   refine AWp_ret ?_
   try simp only [thenQ, blockQ, noGotoQ, retQ, aRes, tupOf, bS, bA]
   exact Le.refl _
  ·
   simp only [List.set_cons_zero, List.set_cons_succ]
   have hgs := Sch.great_spec (by first | exact hc11 | simpa using hc11)
   iterate 3 (refine aops_chunk 1 fun Q0 q0 => ?_; simp only [↓bO, go_sem, seval, Sch.cells]; refine q0 _ ?_; clear q0 Q0; simp only [go_sem])
   simp only [↓bO, go_sem, seval, Sch.cells]
   refine y1 _ ?_
   try clear y1 Y1
   refine AWp_cond rfl (fun hb15 => ?_) (fun hb15 => ?_)
   ·
    refine AWp_seqK fun Y1 y1 => ?_
    refine AWp_region ?_
    refine aops_chunk 1 fun Q0 q0 => ?_
    simp only [↓bO, go_sem, seval, Sch.cells]
    refine APure.call (hA) ?_
    try simp only [bS, bA, thenQ, blockQ, noGotoQ]
    refine q0 _ ?_
    clear q0 Q0
    simp only [go_sem]
    simp only [↓bO, go_sem, seval, Sch.cells]
    refine y1 _ ?_
    try clear y1 Y1
    refine AWp_ret ?_
    try simp only [thenQ, blockQ, noGotoQ, retQ, aRes, tupOf, bS, bA]
    exact Le.refl _
   ·
    have har := hb15
    have hal : ar.length ≤ 10 := by (have h9 := hb15; simp at h9; omega)
    refine AWp_skip ?_
    try simp only [thenQ, blockQ, noGotoQ]
    refine y0 _ ?_
    try clear y0 Y0
    refine AWp_seqK fun Y0 y0 => ?_
    refine AWp_seqK fun Y1 y1 => ?_
    refine AWp_region ?_
    simp only [↓bO, go_sem, seval, Sch.cells]
    refine y1 _ ?_
    try clear y1 Y1
    refine AWp_block ?_
    refine AWp_loopM (σ := Nat) (mB 77 38) (fun z => z ≤ ar.length ∧ ∀ p ∈ ar.take z, p.great = false) (fun z => [(5, .v (.int .i64 (z : Int)))]) (fun z => []) (fun z => ar.length - z) 0 (⟨Nat.zero_le _, fun p hp => by simp at hp⟩) ?_ (fun z hz => ?_)
    ·
     simp only [maskL, setsL, putsO, putO, mB, List.set_cons_zero, List.set_cons_succ, seval]
     exact Weak.mk (by simp only [go_sem, Le.refl, Le.any, Le.slNil, Int.natCast_add, Int.cast_ofNat_Int, Int.natCast_one]) (fun _ _ h => h) rfl rfl
    simp only [maskL, setsL, putsO, putO, mB, List.set_cons_zero, List.set_cons_succ, seval]
    refine AWp_seqK fun Y1 y1 => ?_
    refine AWp_seqK fun Y2 y2 => ?_
    refine AWp_region ?_
    iterate 3 (refine aops_chunk 1 fun Q0 q0 => ?_; simp only [↓bO, go_sem, seval, Sch.cells]; refine q0 _ ?_; clear q0 Q0; simp only [go_sem])
    simp only [↓bO, go_sem, seval, Sch.cells]
    refine y2 _ ?_
    try clear y2 Y2
    refine AWp_cond rfl (fun hb20 => ?_) (fun hb20 => ?_)
    ·
     have hk : z < ar.length := by (have h9 := hb20; simp at h9; omega)
     obtain ⟨p, hp⟩ : ∃ p, ar[z]? = some p := ⟨_, List.getElem?_eq_getElem hk⟩
     have hw : IntKind.i64.wrap ((z : Int) + 1) = (z : Int) + 1 := wrap_in (by omega) (by omega)
     refine AWp_skip ?_
     try simp only [thenQ, blockQ, noGotoQ]
     refine y1 _ ?_
     try clear y1 Y1
     refine AWp_seqK fun Y1 y1 => ?_
     refine AWp_block ?_
     refine AWp_seqK fun Y2 y2 => ?_
     refine AWp_region ?_
     iterate 4 (refine aops_chunk 1 fun Q0 q0 => ?_; simp only [↓bO, go_sem, seval, Sch.cells, hk, gM hp, hw, Int.natCast_add]; refine q0 _ ?_; clear q0 Q0; simp only [go_sem])
     simp only [↓bO, go_sem, seval, Sch.cells, hk, gM hp, hw, Int.natCast_add]
     refine APure.call (Great3_pure p) ?_
     try simp only [bS, bA, thenQ, blockQ, noGotoQ]
     refine y2 _ ?_
     try clear y2 Y2
     refine AWp_cond rfl (fun hb27 => ?_) (fun hb27 => ?_)
     ·
      refine AWp_seqK fun Y2 y2 => ?_
      refine AWp_region ?_
      refine aops_chunk 1 fun Q0 q0 => ?_
      simp only [↓bO, go_sem, seval, Sch.cells, hk, gM hp, hw, Int.natCast_add]
      refine APure.call (hA) ?_
      try simp only [bS, bA, thenQ, blockQ, noGotoQ]
      refine q0 _ ?_
      clear q0 Q0
      simp only [go_sem]
      simp only [↓bO, go_sem, seval, Sch.cells, hk, gM hp, hw, Int.natCast_add]
      refine y2 _ ?_
      try clear y2 Y2
      refine AWp_ret ?_
      try simp only [thenQ, blockQ, noGotoQ, retQ, aRes, tupOf, bS, bA]
      exact Le.refl _
     ·
      have hgp : p.great = false := by (first | exact hb27 | simpa using hb27)
      refine AWp_skip ?_
      try simp only [thenQ, blockQ, noGotoQ]
      refine y1 _ ?_
      try clear y1 Y1
      refine AWp_region ?_
      iterate 2 (refine aops_chunk 1 fun Q0 q0 => ?_; simp only [↓bO, go_sem, seval, Sch.cells, hk, gM hp, hw, Int.natCast_add]; refine q0 _ ?_; clear q0 Q0; simp only [go_sem])
      simp only [↓bO, go_sem, seval, Sch.cells, hk, gM hp, hw, Int.natCast_add]
      refine ⟨z + 1, ⟨by omega, fun q hq => (by rw [List.take_add_one, hp] at hq; rcases List.mem_append.1 hq with h9 | h9; exact hz.2 q h9; simp at h9; rw [h9]; exact hgp)⟩, (by omega), ?_⟩
      simp only [maskL, setsL, putsO, putO, mB, List.set_cons_zero, List.set_cons_succ, seval, hk, gM hp, hw, Int.natCast_add, Int.natCast_one]
      exact Weak.mk (by simp only [go_sem, Le.refl, Le.any, Le.slNil, Int.natCast_add, Int.cast_ofNat_Int, Int.natCast_one]) (fun _ _ h => h) rfl rfl
    ·
     have hk : z = ar.length := by (have h9 := hb20; simp at h9; omega)
     have hcl := cntL_small (l := ar) (by have h9 := hz.2; rw [hk, List.take_length] at h9; exact h9)
     refine AWp_exit ?_
     simp only [thenQ, blockQ, noGotoQ, bA, Nat.reduceEqDiff, ↓reduceIte]
     refine y0 _ ?_
     try clear y0 Y0
     refine AWp_joinZ (mB 77 70) ([(6, .eptr (closeS s.t ar).cells)]) [] 0 (True) ?_ (fun hC => ?_)
     ·
      refine AWp_region ?_
      iterate 3 (refine aops_chunk 1 fun Q0 q0 => ?_; simp only [↓bO, go_sem, seval, Sch.cells]; refine q0 _ ?_; clear q0 Q0; simp only [go_sem])
      refine aops_chunk 1 fun Q0 q0 => ?_
      simp only [↓bO, go_sem, seval, Sch.cells]
      refine APure.call (SClose_pure s.t ar (by omega) (by omega)) ?_
      try simp only [bS, bA, thenQ, blockQ, noGotoQ]
      refine q0 _ ?_
      clear q0 Q0
      simp only [go_sem]
      refine aops_chunk 1 fun Q0 q0 => ?_
      simp only [↓bO, go_sem, seval, Sch.cells]
      refine q0 _ ?_
      clear q0 Q0
      simp only [go_sem]
      simp only [↓bO, go_sem, seval, Sch.cells]
      try simp only [maskL, setsL, putsO, putO, mB, List.set_cons_zero, List.set_cons_succ, seval]
      first | refine ⟨trivial, ?_⟩ | skip
      refine Weak.freeze ?_ trivial (by first | omega | (simp only; omega)) (by first | omega | (simp only; omega)) ?_ ?_
      · repeat' first | trivial | exact .inr ⟨_, _, _, rfl, rfl, rfl, rfl⟩ | exact .inl (.refl _) | exact .inl (.any _) | (refine ⟨?_, ?_⟩)
      · repeat' first | exact trivial | exact .any _ | exact .v _ _ | exact .ptr (by omega) | exact Und.data (dataInts _) | exact Und.data Sch.eptr | exact Und.data Sch.agg | exact Und.data (Ty.dataSl _) | exact Und.data (.eptr (Ty.data _)) | exact Und.data (.eptr (.cons (dataInts _) .nil)) | exact .own (by omega) | (refine ⟨?_, ?_⟩)
      · repeat' first | exact trivial | (with_reducible omega) | exact Und.rowI (iD_data _) | exact UndL.data (Ty.data _) | exact UndL.data (Sch.data _) | exact .v _ _ | (refine ⟨?_, ?_⟩)
     simp only [maskL, setsL, putsO, putO, mB, List.set_cons_zero, List.set_cons_succ, seval]
     refine AWp_seqK fun Y0 y0 => ?_
     refine AWp_seqK fun Y1 y1 => ?_
     refine AWp_region ?_
     iterate 2 (refine aops_chunk 1 fun Q0 q0 => ?_; simp only [↓bO, go_sem, seval, Sch.cells]; refine q0 _ ?_; clear q0 Q0; simp only [go_sem])
     refine aops_chunk 1 fun Q0 q0 => ?_
     simp only [↓bO, go_sem, seval, Sch.cells]
     refine APure.call (RefRight_pure s.t) ?_
     try simp only [bS, bA, thenQ, blockQ, noGotoQ]
     refine q0 _ ?_
     clear q0 Q0
     simp only [go_sem]
     simp only [↓bO, go_sem, seval, Sch.cells]
     refine y1 _ ?_
     try clear y1 Y1
     refine AWp_cond rfl (fun hb36 => ?_) (fun hb36 => ?_)
     ·
      have hr : s.t.right = false := by simpa using hb36
      have hcz : closeS s.t ar = zSch := by (unfold closeS; rw [hr, if_neg (by decide)])
      have hok : s.ok = false := by (unfold Sch.ok; rw [hr]; rfl)
      refine AWp_seqK fun Y1 y1 => ?_
      refine AWp_region ?_
      iterate 2 (refine aops_chunk 1 fun Q0 q0 => ?_; simp only [↓bO, go_sem, seval, Sch.cells]; refine q0 _ ?_; clear q0 Q0; simp only [go_sem])
      refine aops_chunk 1 fun Q0 q0 => ?_
      simp only [↓bO, go_sem, seval, Sch.cells]
      refine APure.call ((show APure Tryd.prog 12 [.agg (closeS s.t ar).cells, .agg [.v (.slice none 0 0), .v (.int .i64 0), .v (.int .i64 0), .v (.slice none 0 0)]] (.v (.bool (decide ((closeS s.t ar).vs = zSch.vs) && (closeS s.t ar).t.same zSch.t))) from (Same16_pure (closeS s.t ar) zSch).le ⟨.refl _, zSch_le, trivial⟩ (.cons Sch.agg (.cons zSch_data .nil)))) ?_
      try simp only [bS, bA, thenQ, blockQ, noGotoQ]
      refine q0 _ ?_
      clear q0 Q0
      simp only [go_sem]
      refine aops_chunk 1 fun Q0 q0 => ?_
      simp only [↓bO, go_sem, seval, Sch.cells]
      refine q0 _ ?_
      clear q0 Q0
      simp only [go_sem]
      refine aops_case 40 rfl (fun hc40 => ?_) (fun hc40 => ?_)
      ·
       simp only [List.set_cons_zero, List.set_cons_succ]
       refine aops_chunk 1 fun Q0 q0 => ?_
       simp only [↓bO, go_sem, seval, Sch.cells]
       refine q0 _ ?_
       clear q0 Q0
       simp only [go_sem]
       refine aops_chunk 1 fun Q0 q0 => ?_
       simp only [↓bO, go_sem, seval, Sch.cells]
       refine APure.call (Own16_pure s) ?_
       try simp only [bS, bA, thenQ, blockQ, noGotoQ]
       refine q0 _ ?_
       clear q0 Q0
       simp only [go_sem]
       refine aops_chunk 1 fun Q0 q0 => ?_
       simp only [↓bO, go_sem, seval, Sch.cells]
       refine APure.call (SRight_pure s (by omega) (by omega)) ?_
       try simp only [bS, bA, thenQ, blockQ, noGotoQ]
       iterate 3 (refine q0 _ ?_; clear q0 Q0; simp only [go_sem]; refine aops_chunk 1 fun Q0 q0 => ?_; simp only [↓bO, go_sem, seval, Sch.cells])
       refine q0 _ ?_
       clear q0 Q0
       simp only [go_sem]
       refine aops_case 46 rfl (fun hc46 => ?_) (fun hc46 => ?_)
       ·
        simp only [List.set_cons_zero, List.set_cons_succ]
        refine aops_chunk 1 fun Q0 q0 => ?_
        simp only [↓bO, go_sem, seval, Sch.cells]
        refine APure.call (hA) ?_
        try simp only [bS, bA, thenQ, blockQ, noGotoQ]
        refine q0 _ ?_
        clear q0 Q0
        simp only [go_sem]
        refine aops_chunk 1 fun Q0 q0 => ?_
        simp only [↓bO, go_sem, seval, Sch.cells]
        refine q0 _ ?_
        clear q0 Q0
        simp only [go_sem]
        simp only [↓bO, go_sem, seval, Sch.cells]
        refine y1 _ ?_
        try clear y1 Y1
        refine AWp_ret ?_
        try simp only [thenQ, blockQ, noGotoQ, retQ, aRes, tupOf, bS, bA]
        exact Le.refl _
       ·
        simp only [List.set_cons_zero, List.set_cons_succ]
        exact absurd hc46 (by rw [hok]; decide)
      ·
       simp only [List.set_cons_zero, List.set_cons_succ]
       exact absurd hc40 (by rw [hcz, Ty.same_reflS]; decide)
     ·
      have hr : s.t.right = true := by simpa using hb36
      have hcz : closeS s.t ar = closeR s.t ar := by (unfold closeS; rw [if_pos hr])
      refine AWp_skip ?_
      try simp only [thenQ, blockQ, noGotoQ]
      refine y0 _ ?_
      try clear y0 Y0
      refine AWp_seqK fun Y0 y0 => ?_
      refine AWp_region ?_
      refine aops_chunk 1 fun Q0 q0 => ?_
      simp only [↓bO, go_sem, seval, Sch.cells]
      refine q0 _ ?_
      clear q0 Q0
      simp only [go_sem]
      refine aops_chunk 1 fun Q0 q0 => ?_
      simp only [↓bO, go_sem, seval, Sch.cells]
      refine APure.call (Right16_pure s (by omega)) ?_
      try simp only [bS, bA, thenQ, blockQ, noGotoQ]
      refine q0 _ ?_
      clear q0 Q0
      simp only [go_sem]
      simp only [↓bO, go_sem, seval, Sch.cells]
      refine y0 _ ?_
      try clear y0 Y0
      refine AWp_seqK fun Y0 y0 => ?_
      refine AWp_region ?_
      simp only [↓bO, go_sem, seval, Sch.cells]
      refine y0 _ ?_
      try clear y0 Y0
      refine AWp_joinM (mB 77 454) ([(8, .sl 1 ((if s.ok = true then s.free else []).map intC))]) ([]) ?_ ?_
      ·
       refine AWp_seqK fun Y0 y0 => ?_
       refine AWp_region ?_
       simp only [↓bO, go_sem, seval, Sch.cells]
       refine y0 _ ?_
       try clear y0 Y0
       refine AWp_cond rfl (fun hb51 => ?_) (fun hb51 => ?_)
       ·
        have hok : s.ok = true := by (first | exact hb51 | simpa using hb51)
        refine AWp_region ?_
        refine aops_chunk 1 fun Q0 q0 => ?_
        simp only [↓bO, go_sem, seval, Sch.cells]
        refine q0 _ ?_
        clear q0 Q0
        simp only [go_sem]
        refine aops_chunk 1 fun Q0 q0 => ?_
        simp only [↓bO, go_sem, seval, Sch.cells]
        refine APure.call (Free16_pure s (by omega)) ?_
        try simp only [bS, bA, thenQ, blockQ, noGotoQ]
        refine q0 _ ?_
        clear q0 Q0
        simp only [go_sem]
        simp only [↓bO, go_sem, seval, Sch.cells]
        try simp only [maskL, setsL, putsO, putO, mB, List.set_cons_zero, List.set_cons_succ, seval]
        refine Weak.mk ?_ (fun _ _ h => h) rfl rfl
        rw [hok]
        repeat' first | exact trivial | exact .refl _ | exact .any _ | exact Le.slNil 1 | (refine ⟨?_, ?_⟩)
       ·
        have hok : s.ok = false := by (first | exact hb51 | simpa using hb51)
        refine AWp_skip ?_
        try simp only [thenQ, blockQ, noGotoQ]
        try simp only [maskL, setsL, putsO, putO, mB, List.set_cons_zero, List.set_cons_succ, seval]
        refine Weak.mk ?_ (fun _ _ h => h) rfl rfl
        rw [hok]
        repeat' first | exact trivial | exact .refl _ | exact .any _ | exact Le.slNil 1 | (refine ⟨?_, ?_⟩)
      simp only [maskL, setsL, putsO, putO, mB, List.set_cons_zero, List.set_cons_succ, seval]
      refine AWp_seqK fun Y0 y0 => ?_
      refine AWp_drawK 23 mixed (by kernel_rfl) fun J0 j0 => ?_
      iterate 4 (simp only [go_sem]; refine dRun_chunk 1 fun Q0 q0 => ?_; simp only [↓dRun, ↓dOp, ↓bO, go_sem, seval, Sch.cells]; refine q0 _ ?_; clear q0 Q0)
      simp only [go_sem]
      refine dRun_chunk 1 fun Q0 q0 => ?_
      simp only [↓dRun, ↓dOp, ↓bO, go_sem, seval, Sch.cells]
      refine ⟨_, Close16_pure s.t ar (by omega) (by omega), ?_⟩
      try simp only [bS, bA, thenQ, blockQ, noGotoQ]
      refine q0 _ ?_
      clear q0 Q0
      simp only [go_sem]
      refine dRun_chunk 1 fun Q0 q0 => ?_
      simp only [↓dRun, ↓dOp, ↓bO, go_sem, seval, Sch.cells]
      refine ⟨_, Same16_pure (closeS s.t ar) (closeR s.t ar), ?_⟩
      try simp only [bS, bA, thenQ, blockQ, noGotoQ]
      refine q0 _ ?_
      clear q0 Q0
      simp only [go_sem]
      refine dRun_chunk 1 fun Q0 q0 => ?_
      simp only [↓dRun, ↓dOp, ↓bO, go_sem, seval, Sch.cells]
      refine q0 _ ?_
      clear q0 Q0
      simp only [go_sem]
      refine dRun_case 60 rfl (fun hc60 => ?_) (fun hc60 => ?_)
      ·
       simp only [List.set_cons_zero, List.set_cons_succ]
       refine dRun_chunk 1 fun Q0 q0 => ?_
       simp only [↓dRun, ↓dOp, ↓bO, go_sem, seval, Sch.cells]
       refine q0 _ ?_
       clear q0 Q0
       simp only [go_sem]
       refine dRun_chunk 1 fun Q0 q0 => ?_
       simp only [↓dRun, ↓dOp, ↓bO, go_sem, seval, Sch.cells]
       refine ⟨_, Own16_pure s, ?_⟩
       try simp only [bS, bA, thenQ, blockQ, noGotoQ]
       refine q0 _ ?_
       clear q0 Q0
       simp only [go_sem]
       refine dRun_chunk 1 fun Q0 q0 => ?_
       simp only [↓dRun, ↓dOp, ↓bO, go_sem, seval, Sch.cells]
       refine ⟨_, SRight_pure s (by omega) (by omega), ?_⟩
       try simp only [bS, bA, thenQ, blockQ, noGotoQ]
       iterate 4 (refine q0 _ ?_; clear q0 Q0; simp only [go_sem]; refine dRun_chunk 1 fun Q0 q0 => ?_; simp only [↓dRun, ↓dOp, ↓bO, go_sem, seval, Sch.cells])
       refine q0 _ ?_
       clear q0 Q0
       simp only [go_sem]
       refine dRun_case 67 rfl (fun hc67 => ?_) (fun hc67 => ?_)
       ·
        simp only [List.set_cons_zero, List.set_cons_succ]
        refine dRun_chunk 1 fun Q0 q0 => ?_
        simp only [↓dRun, ↓dOp, ↓bO, go_sem, seval, Sch.cells]
        refine q0 _ ?_
        clear q0 Q0
        simp only [go_sem]
        refine dRun_chunk 1 fun Q0 q0 => ?_
        simp only [↓dRun, ↓dOp, ↓bO, go_sem, seval, Sch.cells]
        refine ⟨_, Own16_pure s, ?_⟩
        try simp only [bS, bA, thenQ, blockQ, noGotoQ]
        refine q0 _ ?_
        clear q0 Q0
        simp only [go_sem]
        refine dRun_chunk 1 fun Q0 q0 => ?_
        simp only [↓dRun, ↓dOp, ↓bO, go_sem, seval, Sch.cells]
        refine ⟨_, SFree_pure s (by omega) (by omega), ?_⟩
        try simp only [bS, bA, thenQ, blockQ, noGotoQ]
        iterate 2 (refine q0 _ ?_; clear q0 Q0; simp only [go_sem]; refine dRun_chunk 1 fun Q0 q0 => ?_; simp only [↓dRun, ↓dOp, ↓bO, go_sem, seval, Sch.cells])
        refine ⟨_, Ints_pure (if s.ok = true then s.free else []) (if s.ok = true then s.free else []), ?_⟩
        try simp only [bS, bA, thenQ, blockQ, noGotoQ]
        iterate 2 (refine q0 _ ?_; clear q0 Q0; simp only [go_sem]; refine dRun_chunk 1 fun Q0 q0 => ?_; simp only [↓dRun, ↓dOp, ↓bO, go_sem, seval, Sch.cells])
        refine q0 _ ?_
        clear q0 Q0
        simp only [go_sem]
        refine dRun_case 74 rfl (fun hc74 => ?_) (fun hc74 => ?_)
        ·
         simp only [List.set_cons_zero, List.set_cons_succ]
         refine dRun_chunk 1 fun Q0 q0 => ?_
         simp only [↓dRun, ↓dOp, ↓bO, go_sem, seval, Sch.cells]
         refine ⟨_, hA, ?_⟩
         try simp only [bS, bA, thenQ, blockQ, noGotoQ]
         refine q0 _ ?_
         clear q0 Q0
         simp only [go_sem]
         simp only [↓dRun, ↓dOp, ↓bO, go_sem, seval, Sch.cells]
         refine j0 _ ?_
         clear j0 J0
         simp only [go_sem]
         simp only [↓bO, go_sem, seval, Sch.cells]
         refine y0 _ ?_
         try clear y0 Y0
         refine AWp_ret ?_
         try simp only [thenQ, blockQ, noGotoQ, retQ, aRes, tupOf, bS, bA]
         exact Le.refl _
        ·
         simp only [List.set_cons_zero, List.set_cons_succ]
         exact absurd hc74 (by simp)
       ·
        simp only [List.set_cons_zero, List.set_cons_succ]
        exact absurd hc67 (by simp)
      ·
       simp only [List.set_cons_zero, List.set_cons_succ]
       exact absurd hc60 (by rw [hcz, Ty.same_reflS]; simp)
end Go.Proofs.YtheacaigeidflaaDoor
