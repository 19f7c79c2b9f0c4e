/- Texts of the abstract walk, of the contracts and of the plain laws, packed (part 39 of 44): Sc10 Sc14 Sc11 Sc15 Sc16. Conditions: none. -/
import Derived.Test.YtheacaigeidflaaDoorPk38
namespace Go.Proofs.YtheacaigeidflaaDoor
open Go Go.RowKit
set_option maxRecDepth 100000
set_option maxHeartbeats 4000000
set_option linter.unusedSimpArgs false
set_option linter.unusedVariables false
attribute [local irreducible] aops dRun
theorem mRes_iff {T U : Ty} (h1 : T.right = true) (h2 : U.right = true) : decide ((mRes T U).2 = 0) = (T.match U []).1 := by
  unfold mRes
  rw [h1, h2]
  cases (T.match U []).1 <;> rfl
theorem SInst_pure (s : Sch) (t : Ty) (hc : s.t.cnt ≤ 1048576) (hv : s.vs.length ≤ 1048576) (ht : t.cnt ≤ 1048576) : APure Tryd.prog 22 [.agg s.cells, .agg t.cells] (.v (.bool (instC s t))) := by
  refine APure.mkL (.cons Sch.agg (.cons (Ty.dataAgg _) .nil)) (.v _) ?_
  refine ACalls_intro Tryd.func22 (by kernel_rfl) rfl (by rw [Tryd.ntmps22]; simp) (fun hm => ?_)
  simp only [Tryd.ntmps22, Tryd.results22, List.length_cons, List.length_nil, Nat.reduceAdd, Nat.reduceSub, List.replicate_succ, List.replicate_zero, List.cons_append, List.nil_append]
  refine AWp_joinZ (mB 40 12) ([(2, .eptr s.cells), (3, .eptr t.cells)]) [] 0 (True) ?_ (fun hC => ?_)
  ·
   refine AWp_region ?_
   iterate 2 (refine aops_chunk 1 fun Q0 q0 => ?_; simp only [↓bO, go_sem, seval, Sch.cells]; refine q0 _ ?_; clear q0 Q0; simp only [go_sem])
   simp only [↓bO, go_sem, seval, Sch.cells]
   try simp only [maskL, setsL, putsO, putO, mB, List.set_cons_zero, List.set_cons_succ, seval]
   first | refine ⟨trivial, ?_⟩ | skip
   refine Weak.freeze ?_ trivial (by first | omega | (simp only; omega)) (by first | omega | (simp only; omega)) ?_ ?_
   · repeat' first | trivial | exact .inr ⟨_, _, _, rfl, rfl, rfl, rfl⟩ | exact .inl (.refl _) | exact .inl (.any _) | (refine ⟨?_, ?_⟩)
   · repeat' first | exact trivial | exact .any _ | exact .v _ _ | exact .ptr (by omega) | exact Und.data (dataInts _) | exact Und.data Sch.eptr | exact Und.data Sch.agg | exact Und.data (Ty.dataSl _) | exact Und.data (.eptr (Ty.data _)) | exact Und.data (.eptr (.cons (dataInts _) .nil)) | exact .own (by omega) | (refine ⟨?_, ?_⟩)
   · repeat' first | exact trivial | (with_reducible omega) | exact Und.rowI (iD_data _) | exact UndL.data (Ty.data _) | exact UndL.data (Sch.data _) | exact .v _ _ | (refine ⟨?_, ?_⟩)
  simp only [maskL, setsL, putsO, putO, mB, List.set_cons_zero, List.set_cons_succ, seval]
  refine AWp_seqK fun Y0 y0 => ?_
  refine AWp_seqK fun Y1 y1 => ?_
  refine AWp_region ?_
  refine aops_chunk 1 fun Q0 q0 => ?_
  simp only [↓bO, go_sem, seval, Sch.cells]
  refine q0 _ ?_
  clear q0 Q0
  simp only [go_sem]
  refine aops_chunk 1 fun Q0 q0 => ?_
  simp only [↓bO, go_sem, seval, Sch.cells]
  refine APure.call (SRight_pure s hc (by omega)) ?_
  try simp only [bS, bA, thenQ, blockQ, noGotoQ]
  iterate 2 (refine q0 _ ?_; clear q0 Q0; simp only [go_sem]; refine aops_chunk 1 fun Q0 q0 => ?_; simp only [↓bO, go_sem, seval, Sch.cells])
  refine q0 _ ?_
  clear q0 Q0
  simp only [go_sem]
  refine aops_case 12 rfl (fun hc12 => ?_) (fun hc12 => ?_)
  ·
   simp only [List.set_cons_zero, List.set_cons_succ]
   have hok : s.ok = false := by (have h9 := hc12; simpa using h9)
   iterate 3 (refine aops_chunk 1 fun Q0 q0 => ?_; simp only [↓bO, go_sem, seval, Sch.cells]; refine q0 _ ?_; clear q0 Q0; simp only [go_sem])
   simp only [↓bO, go_sem, seval, Sch.cells]
   refine y1 _ ?_
   try clear y1 Y1
   refine AWp_cond (b := true) (by first | exact rfl | exact congrArg (fun b => AV.v (.bool b)) hb16) (fun _ => ?_) (fun h => (by cases h))
   refine AWp_seqK fun Y1 y1 => ?_
   refine AWp_region ?_
   simp only [↓bO, go_sem, seval, Sch.cells]
   refine y1 _ ?_
   try clear y1 Y1
   refine AWp_ret ?_
   try simp only [thenQ, blockQ, noGotoQ, retQ, aRes, tupOf, bS, bA]
   refine Le.of_eq (congrArg (fun b => AV.v (.bool b)) ?_)
   unfold instC
   rw [hok]; rfl
  ·
   simp only [List.set_cons_zero, List.set_cons_succ]
   have hok : s.ok = true := by (have h9 := hc12; simpa using h9)
   refine aops_chunk 1 fun Q0 q0 => ?_
   simp only [↓bO, go_sem, seval, Sch.cells]
   refine q0 _ ?_
   clear q0 Q0
   simp only [go_sem]
   refine aops_chunk 1 fun Q0 q0 => ?_
   simp only [↓bO, go_sem, seval, Sch.cells]
   refine APure.call (Right_pure t) ?_
   try simp only [bS, bA, thenQ, blockQ, noGotoQ]
   refine q0 _ ?_
   clear q0 Q0
   simp only [go_sem]
   refine aops_chunk 1 fun Q0 q0 => ?_
   simp only [↓bO, go_sem, seval, Sch.cells]
   refine q0 _ ?_
   clear q0 Q0
   simp only [go_sem]
   simp only [↓bO, go_sem, seval, Sch.cells]
   refine y1 _ ?_
   try clear y1 Y1
   refine AWp_cond rfl (fun hb16 => ?_) (fun hb16 => ?_)
   ·
    have htr : t.right = false := by (have h9 := hb16; simpa using h9)
    refine AWp_seqK fun Y1 y1 => ?_
    refine AWp_region ?_
    simp only [↓bO, go_sem, seval, Sch.cells]
    refine y1 _ ?_
    try clear y1 Y1
    refine AWp_ret ?_
    try simp only [thenQ, blockQ, noGotoQ, retQ, aRes, tupOf, bS, bA]
    refine Le.of_eq (congrArg (fun b => AV.v (.bool b)) ?_)
    unfold instC
    rw [hok, htr]; rfl
   ·
    have htr : t.right = true := by (have h9 := hb16; simpa using h9)
    refine AWp_skip ?_
    try simp only [thenQ, blockQ, noGotoQ]
    refine y0 _ ?_
    try clear y0 Y0
    refine AWp_seqK fun Y0 y0 => ?_
    refine AWp_seqK fun Y1 y1 => ?_
    refine AWp_region ?_
    refine aops_chunk 1 fun Q0 q0 => ?_
    simp only [↓bO, go_sem, seval, Sch.cells]
    refine q0 _ ?_
    clear q0 Q0
    simp only [go_sem]
    refine aops_chunk 1 fun Q0 q0 => ?_
    simp only [↓bO, go_sem, seval, Sch.cells]
    refine APure.call ((show APure Tryd.prog 19 [.agg s.cells] (.sl 1 (s.free.map intC)) from by have h9 := SFree_pure s hc (by omega); rw [if_pos hok] at h9; exact h9)) ?_
    try simp only [bS, bA, thenQ, blockQ, noGotoQ]
    refine q0 _ ?_
    clear q0 Q0
    simp only [go_sem]
    refine aops_chunk 1 fun Q0 q0 => ?_
    simp only [↓bO, go_sem, seval, Sch.cells]
    refine q0 _ ?_
    clear q0 Q0
    simp only [go_sem]
    simp only [↓bO, go_sem, seval, Sch.cells]
    refine y1 _ ?_
    try clear y1 Y1
    refine AWp_cond rfl (fun hb20 => ?_) (fun hb20 => ?_)
    ·
     have hfr : s.free = [] := by (have h9 := hb20; simp at h9; exact h9)
     refine AWp_seqK fun Y1 y1 => ?_
     refine AWp_region ?_
     iterate 3 (refine aops_chunk 1 fun Q0 q0 => ?_; simp only [↓bO, go_sem, seval, Sch.cells]; refine q0 _ ?_; clear q0 Q0; simp only [go_sem])
     refine aops_chunk 1 fun Q0 q0 => ?_
     simp only [↓bO, go_sem, seval, Sch.cells]
     refine APure.call (Match_pure s.t t (by omega) (by omega)) ?_
     try simp only [bS, bA, thenQ, blockQ, noGotoQ]
     iterate 4 (refine q0 _ ?_; clear q0 Q0; simp only [go_sem]; refine aops_chunk 1 fun Q0 q0 => ?_; simp only [↓bO, go_sem, seval, Sch.cells])
     refine q0 _ ?_
     clear q0 Q0
     simp only [go_sem]
     simp only [↓bO, go_sem, seval, Sch.cells]
     refine y1 _ ?_
     try clear y1 Y1
     refine AWp_seqK fun Y1 y1 => ?_
     refine AWp_region ?_
     iterate 2 (refine aops_chunk 1 fun Q0 q0 => ?_; simp only [↓bO, go_sem, seval, Sch.cells]; refine q0 _ ?_; clear q0 Q0; simp only [go_sem])
     simp only [↓bO, go_sem, seval, Sch.cells]
     refine y1 _ ?_
     try clear y1 Y1
     refine AWp_ret ?_
     try simp only [thenQ, blockQ, noGotoQ, retQ, aRes, tupOf, bS, bA]
     refine Le.of_eq (congrArg (fun b => AV.v (.bool b)) ?_)
     unfold instC
     rw [hok, htr, if_pos hfr, ← mRes_iff (Sch.ok_iff.1 hok).1 htr]; rfl
    ·
     have hfr : ¬ s.free = [] := by (have h9 := hb20; simp at h9; exact h9)
     refine AWp_skip ?_
     try simp only [thenQ, blockQ, noGotoQ]
     refine y0 _ ?_
     try clear y0 Y0
     refine AWp_joinZ (mB 40 384) ([(7, .eptr (s.t.mark s.rig).cells), (8, .eptr (t.mark fun _ => true).cells)]) [] 0 (True) ?_ (fun hC => ?_)
     ·
      refine AWp_region ?_
      iterate 2 (refine aops_chunk 1 fun Q0 q0 => ?_; simp only [↓bO, go_sem, seval, Sch.cells]; refine q0 _ ?_; clear q0 Q0; simp only [go_sem])
      refine aops_chunk 1 fun Q0 q0 => ?_
      simp only [↓bO, go_sem, seval, Sch.cells]
      refine APure.call ((show APure Tryd.prog 46 [.agg s.cells, .agg t.cells] (.tup [.agg (s.t.mark s.rig).cells, .agg (t.mark fun _ => true).cells]) from rigid_pure s t hv hc ht)) ?_
      try simp only [bS, bA, thenQ, blockQ, noGotoQ]
      iterate 6 (refine q0 _ ?_; clear q0 Q0; simp only [go_sem]; refine aops_chunk 1 fun Q0 q0 => ?_; simp only [↓bO, go_sem, seval, Sch.cells])
      refine q0 _ ?_
      clear q0 Q0
      simp only [go_sem]
      simp only [↓bO, go_sem, seval, Sch.cells]
      try simp only [maskL, setsL, putsO, putO, mB, List.set_cons_zero, List.set_cons_succ, seval]
      first | refine ⟨trivial, ?_⟩ | skip
      refine Weak.freeze ?_ trivial (by first | omega | (simp only; omega)) (by first | omega | (simp only; omega)) ?_ ?_
      · repeat' first | trivial | exact .inr ⟨_, _, _, rfl, rfl, rfl, rfl⟩ | exact .inl (.refl _) | exact .inl (.any _) | (refine ⟨?_, ?_⟩)
      · repeat' first | exact trivial | exact .any _ | exact .v _ _ | exact .ptr (by omega) | exact Und.data (dataInts _) | exact Und.data Sch.eptr | exact Und.data Sch.agg | exact Und.data (Ty.dataSl _) | exact Und.data (.eptr (Ty.data _)) | exact Und.data (.eptr (.cons (dataInts _) .nil)) | exact .own (by omega) | (refine ⟨?_, ?_⟩)
      · repeat' first | exact trivial | (with_reducible omega) | exact Und.rowI (iD_data _) | exact UndL.data (Ty.data _) | exact UndL.data (Sch.data _) | exact .v _ _ | (refine ⟨?_, ?_⟩)
     simp only [maskL, setsL, putsO, putO, mB, List.set_cons_zero, List.set_cons_succ, seval]
     refine AWp_seqK fun Y0 y0 => ?_
     refine AWp_region ?_
     iterate 3 (refine aops_chunk 1 fun Q0 q0 => ?_; simp only [↓bO, go_sem, seval, Sch.cells]; refine q0 _ ?_; clear q0 Q0; simp only [go_sem])
     refine aops_chunk 1 fun Q0 q0 => ?_
     simp only [↓bO, go_sem, seval, Sch.cells]
     refine MCalls.at (m := []) (cov_calls (s.t.mark s.rig) (t.mark fun _ => true) []) (.cons (Ty.dataAgg _) (.cons (Ty.dataAgg _) .nil)) (.v _) (i := 0) rfl (by first | omega | (simp only; omega)) ?_
     simp only [putO, Nat.reduceEqDiff, ↓reduceIte]
     try simp only [bS, bA, thenQ, blockQ, noGotoQ]
     refine q0 _ ?_
     clear q0 Q0
     simp only [go_sem]
     simp only [↓bO, go_sem, seval, Sch.cells]
     refine y0 _ ?_
     try clear y0 Y0
     refine AWp_ret ?_
     try simp only [thenQ, blockQ, noGotoQ, retQ, aRes, tupOf, bS, bA]
     refine Le.of_eq (congrArg (fun b => AV.v (.bool b)) ?_)
     unfold instC
     rw [hok, htr, if_neg hfr]; rfl
theorem SMore_pure (a b : Sch) (hca : a.t.cnt ≤ 1048576) (hva : a.vs.length ≤ 1048576) (hcb : b.t.cnt ≤ 1048576) (hvb : b.vs.length ≤ 1048576) : APure Tryd.prog 23 [.agg a.cells, .agg b.cells] (.v (.bool (moreC a b))) := by
  refine APure.mkL (.cons Sch.agg (.cons Sch.agg .nil)) (.v _) ?_
  refine ACalls_intro Tryd.func23 (by kernel_rfl) rfl (by rw [Tryd.ntmps23]; simp) (fun hm => ?_)
  simp only [Tryd.ntmps23, Tryd.results23, List.length_cons, List.length_nil, Nat.reduceAdd, Nat.reduceSub, List.replicate_succ, List.replicate_zero, List.cons_append, List.nil_append]
  refine AWp_joinZ (mB 24 12) ([(2, .eptr a.cells), (3, .eptr b.cells)]) [] 0 (True) ?_ (fun hC => ?_)
  ·
   refine AWp_region ?_
   iterate 2 (refine aops_chunk 1 fun Q0 q0 => ?_; simp only [↓bO, go_sem, seval, Sch.cells]; refine q0 _ ?_; clear q0 Q0; simp only [go_sem])
   simp only [↓bO, go_sem, seval, Sch.cells]
   try simp only [maskL, setsL, putsO, putO, mB, List.set_cons_zero, List.set_cons_succ, seval]
   first | refine ⟨trivial, ?_⟩ | skip
   refine Weak.freeze ?_ trivial (by first | omega | (simp only; omega)) (by first | omega | (simp only; omega)) ?_ ?_
   · repeat' first | trivial | exact .inr ⟨_, _, _, rfl, rfl, rfl, rfl⟩ | exact .inl (.refl _) | exact .inl (.any _) | (refine ⟨?_, ?_⟩)
   · repeat' first | exact trivial | exact .any _ | exact .v _ _ | exact .ptr (by omega) | exact Und.data (dataInts _) | exact Und.data Sch.eptr | exact Und.data Sch.agg | exact Und.data (Ty.dataSl _) | exact Und.data (.eptr (Ty.data _)) | exact Und.data (.eptr (.cons (dataInts _) .nil)) | exact .own (by omega) | (refine ⟨?_, ?_⟩)
   · repeat' first | exact trivial | (with_reducible omega) | exact Und.rowI (iD_data _) | exact UndL.data (Ty.data _) | exact UndL.data (Sch.data _) | exact .v _ _ | (refine ⟨?_, ?_⟩)
  simp only [maskL, setsL, putsO, putO, mB, List.set_cons_zero, List.set_cons_succ, seval]
  refine AWp_seqK fun Y0 y0 => ?_
  refine AWp_region ?_
  refine aops_chunk 1 fun Q0 q0 => ?_
  simp only [↓bO, go_sem, seval, Sch.cells]
  refine q0 _ ?_
  clear q0 Q0
  simp only [go_sem]
  refine aops_chunk 1 fun Q0 q0 => ?_
  simp only [↓bO, go_sem, seval, Sch.cells]
  refine APure.call (SRight_pure a hca (by omega)) ?_
  try simp only [bS, bA, thenQ, blockQ, noGotoQ]
  refine q0 _ ?_
  clear q0 Q0
  simp only [go_sem]
  refine aops_chunk 1 fun Q0 q0 => ?_
  simp only [↓bO, go_sem, seval, Sch.cells]
  refine q0 _ ?_
  clear q0 Q0
  simp only [go_sem]
  refine aops_case 7 rfl (fun hc7 => ?_) (fun hc7 => ?_)
  ·
   simp only [List.set_cons_zero, List.set_cons_succ]
   have hoa : a.ok = true := by (have h9 := hc7; simpa using h9)
   refine aops_chunk 1 fun Q0 q0 => ?_
   simp only [↓bO, go_sem, seval, Sch.cells]
   refine q0 _ ?_
   clear q0 Q0
   simp only [go_sem]
   refine aops_chunk 1 fun Q0 q0 => ?_
   simp only [↓bO, go_sem, seval, Sch.cells]
   refine APure.call (SRight_pure b hcb (by omega)) ?_
   try simp only [bS, bA, thenQ, blockQ, noGotoQ]
   iterate 2 (refine q0 _ ?_; clear q0 Q0; simp only [go_sem]; refine aops_chunk 1 fun Q0 q0 => ?_; simp only [↓bO, go_sem, seval, Sch.cells])
   refine q0 _ ?_
   clear q0 Q0
   simp only [go_sem]
   refine aops_case 11 rfl (fun hc11 => ?_) (fun hc11 => ?_)
   ·
    simp only [List.set_cons_zero, List.set_cons_succ]
    have hob : b.ok = true := by (have h9 := hc11; simpa using h9)
    iterate 3 (refine aops_chunk 1 fun Q0 q0 => ?_; simp only [↓bO, go_sem, seval, Sch.cells]; refine q0 _ ?_; clear q0 Q0; simp only [go_sem])
    refine aops_chunk 1 fun Q0 q0 => ?_
    simp only [↓bO, go_sem, seval, Sch.cells]
    refine APure.call (SInst_pure a b.t hca hva hcb) ?_
    try simp only [bS, bA, thenQ, blockQ, noGotoQ]
    iterate 2 (refine q0 _ ?_; clear q0 Q0; simp only [go_sem]; refine aops_chunk 1 fun Q0 q0 => ?_; simp only [↓bO, go_sem, seval, Sch.cells])
    refine q0 _ ?_
    clear q0 Q0
    simp only [go_sem]
    refine aops_case 17 rfl (fun hc17 => ?_) (fun hc17 => ?_)
    ·
     simp only [List.set_cons_zero, List.set_cons_succ]
     have hin : instC a b.t = true := by (have h9 := hc17; simpa using h9)
     refine aops_chunk 1 fun Q0 q0 => ?_
     simp only [↓bO, go_sem, seval, Sch.cells]
     refine q0 _ ?_
     clear q0 Q0
     simp only [go_sem]
     refine aops_chunk 1 fun Q0 q0 => ?_
     simp only [↓bO, go_sem, seval, Sch.cells]
     refine APure.call ((show APure Tryd.prog 19 [.agg a.cells] (.sl 1 (a.free.map intC)) from by have h9 := SFree_pure a hca (by omega); rw [if_pos hoa] at h9; exact h9)) ?_
     try simp only [bS, bA, thenQ, blockQ, noGotoQ]
     iterate 2 (refine q0 _ ?_; clear q0 Q0; simp only [go_sem]; refine aops_chunk 1 fun Q0 q0 => ?_; simp only [↓bO, go_sem, seval, Sch.cells])
     refine ACalls.mono (ContainsGIn a.free 49 [.eptr b.cells] (fun v => decide (v ∈ b.vs)) _ _ trivial (fun p hp => (More1_pure b p (by omega)).call ⟨⟨rfl, rfl⟩, rfl⟩)) ?_
     rintro z os2 nx2 ⟨⟨rfl, rfl⟩, rfl⟩
     try simp only [bS, bA, thenQ, blockQ, noGotoQ]
     iterate 2 (refine q0 _ ?_; clear q0 Q0; simp only [go_sem]; refine aops_chunk 1 fun Q0 q0 => ?_; simp only [↓bO, go_sem, seval, Sch.cells])
     refine q0 _ ?_
     clear q0 Q0
     simp only [go_sem]
     simp only [↓bO, go_sem, seval, Sch.cells]
     refine y0 _ ?_
     try clear y0 Y0
     refine AWp_ret ?_
     try simp only [thenQ, blockQ, noGotoQ, retQ, aRes, tupOf, bS, bA]
     refine Le.of_eq (congrArg (fun b => AV.v (.bool b)) ?_)
     unfold moreC
     rw [hoa, hob, hin]; rfl
    ·
     simp only [List.set_cons_zero, List.set_cons_succ]
     have hin : instC a b.t = false := by (have h9 := hc17; simpa using h9)
     iterate 6 (refine aops_chunk 1 fun Q0 q0 => ?_; simp only [↓bO, go_sem, seval, Sch.cells]; refine q0 _ ?_; clear q0 Q0; simp only [go_sem])
     simp only [↓bO, go_sem, seval, Sch.cells]
     refine y0 _ ?_
     try clear y0 Y0
     refine AWp_ret ?_
     try simp only [thenQ, blockQ, noGotoQ, retQ, aRes, tupOf, bS, bA]
     refine Le.of_eq (congrArg (fun b => AV.v (.bool b)) ?_)
     unfold moreC
     rw [hoa, hob, hin]; rfl
   ·
    simp only [List.set_cons_zero, List.set_cons_succ]
    have hob : b.ok = false := by (have h9 := hc11; simpa using h9)
    iterate 12 (refine aops_chunk 1 fun Q0 q0 => ?_; simp only [↓bO, go_sem, seval, Sch.cells]; refine q0 _ ?_; clear q0 Q0; simp only [go_sem])
    simp only [↓bO, go_sem, seval, Sch.cells]
    refine y0 _ ?_
    try clear y0 Y0
    refine AWp_ret ?_
    try simp only [thenQ, blockQ, noGotoQ, retQ, aRes, tupOf, bS, bA]
    refine Le.of_eq (congrArg (fun b => AV.v (.bool b)) ?_)
    unfold moreC
    rw [hoa, hob]; rfl
  ·
   simp only [List.set_cons_zero, List.set_cons_succ]
   have hoa : a.ok = false := by (have h9 := hc7; simpa using h9)
   iterate 16 (refine aops_chunk 1 fun Q0 q0 => ?_; simp only [↓bO, go_sem, seval, Sch.cells]; refine q0 _ ?_; clear q0 Q0; simp only [go_sem])
   simp only [↓bO, go_sem, seval, Sch.cells]
   refine y0 _ ?_
   try clear y0 Y0
   refine AWp_ret ?_
   try simp only [thenQ, blockQ, noGotoQ, retQ, aRes, tupOf, bS, bA]
   refine Le.of_eq (congrArg (fun b => AV.v (.bool b)) ?_)
   unfold moreC
   rw [hoa]; rfl
theorem nodup_subS : ∀ {l m : List Int}, l.Nodup → (∀ v ∈ l, v ∈ m) → l.length ≤ m.length
  | [], _, _, _ => Nat.zero_le _
  | x :: l, m, h, hs => by
    have h1 := List.nodup_cons.1 h
    have hx := hs x (by simp)
    have ih := nodup_subS (l := l) (m := m.erase x) h1.2 fun v hv => (List.mem_erase_of_ne (fun (e : v = x) => h1.1 (by rw [← e]; exact hv))).2 (hs v (by simp [hv]))
    rw [List.length_erase_of_mem hx] at ih
    have := List.length_pos_of_mem hx
    simp only [List.length_cons]
    omega
def natsN (free : List Int) (n : Nat) : List Int := ((List.range n).map fun i : Nat => (i : Int)).filter fun v => !decide (v ∈ free)
theorem natsN_step (free : List Int) (n : Nat) : natsN free (n + 1) = if decide ((n : Int) ∈ free) = true then natsN free n else natsN free n ++ [(n : Int)] := by
  unfold natsN
  rw [List.range_succ, List.map_append, List.filter_append]
  by_cases h : (n : Int) ∈ free <;> simp [h]
theorem natsN_pre (free : List Int) (n : Nat) : ∀ k : Nat, natsN free n <+: natsN free (n + k)
  | 0 => List.prefix_refl _
  | k + 1 => (natsN_pre free n k).trans (by
    rw [show n + (k + 1) = (n + k) + 1 from rfl, natsN_step]
    split
    · exact List.prefix_refl _
    · exact List.prefix_append _ _)
theorem range_nodup (n : Nat) : ((List.range n).map fun i : Nat => (i : Int)).Nodup := by
  refine List.pairwise_map.2 ?_
  exact List.pairwise_lt_range.imp fun h e => by omega
theorem natsN_nodup (free : List Int) (n : Nat) : (natsN free n).Nodup := (range_nodup n).filter _
theorem natsN_out {free : List Int} {n : Nat} {v : Int} (h : v ∈ natsN free n) : v ∉ free := by
  have := (List.mem_filter.1 h).2
  simpa using this
theorem natsN_len (free : List Int) (n : Nat) : n ≤ (natsN free n).length + free.length := by
  have h : ∀ l : List Int, l.Nodup → l.length ≤ (l.filter fun v => !decide (v ∈ free)).length + free.length := by
    intro l hl
    have h1 : (l.filter fun v => decide (v ∈ free)).length ≤ free.length := by
      have hn : (l.filter fun v => decide (v ∈ free)).Nodup := hl.filter _
      have hs : ∀ v ∈ l.filter (fun v => decide (v ∈ free)), v ∈ free := fun v hv => by simpa using (List.mem_filter.1 hv).2
      exact nodup_subS hn hs
    have h2 : ∀ l : List Int, l.length = (l.filter fun v => !decide (v ∈ free)).length + (l.filter fun v => decide (v ∈ free)).length := by
      intro l
      induction l with
      | nil => rfl
      | cons x l ih => by_cases hx : x ∈ free <;> simp [hx] <;> omega
    have := h2 l
    omega
  have := h _ (range_nodup n)
  simpa [natsN] using this
def canonL (free : List Int) (k : Nat) : List Int := (natsN free (k + free.length)).take k
theorem canonL_at {free : List Int} {k n : Nat} (h : (natsN free n).length = k) : natsN free n = canonL free k := by
  have hn := natsN_len free n
  have hp := natsN_pre free n (k + free.length - n)
  rw [show n + (k + free.length - n) = k + free.length from by omega] at hp
  subst h
  exact List.prefix_iff_eq_take.1 hp
theorem canonL_len (free : List Int) (k : Nat) : (canonL free k).length = k := by
  unfold canonL
  rw [List.length_take]
  have := natsN_len free (k + free.length)
  omega
theorem canonL_nodup (free : List Int) (k : Nat) : (canonL free k).Nodup := (natsN_nodup _ _).sublist (List.take_sublist _ _)
theorem canonL_out {free : List Int} {k : Nat} {v : Int} (h : v ∈ canonL free k) : v ∉ free := natsN_out (List.mem_of_mem_take h)
theorem getD_range (l : List Int) : (List.range l.length).map (fun i => l.getD i 0) = l := by
  refine List.ext_getElem (by simp) fun i h1 h2 => ?_
  simp [List.getElem?_eq_getElem h2]
def canonS (s : Sch) : Sch := if s.ok = true then ⟨canonL s.free s.vs.length, s.t.sub (callB s.vs (canonL s.free s.vs.length))⟩ else zSch
theorem Sch.free_len (s : Sch) : s.free.length ≤ s.t.cnt := Nat.le_trans (List.length_filter_le _ _) s.all_len
theorem Canon1_pure (l : List Int) (i : Nat) (hi : i < l.length) : APure Tryd.prog 74 [.v (.int .i64 (i : Int)), .eptr [.sl 1 (l.map intC)]] (.v (.int .i64 (l.getD i 0))) := by
  refine APure.mkL (.cons (.v _) (.cons (.eptr (.cons (dataInts _) .nil)) .nil)) (.v _) ?_
  refine ACalls_intro Tryd.func74 (by kernel_rfl) rfl (by rw [Tryd.ntmps74]; simp) (fun hm => ?_)
  simp only [Tryd.ntmps74, Tryd.results74, List.length_cons, List.length_nil, Nat.reduceAdd, Nat.reduceSub, List.replicate_succ, List.replicate_zero, List.cons_append, List.nil_append]
  obtain ⟨v, hv⟩ : ∃ v, l[i]? = some v := ⟨_, List.getElem?_eq_getElem hi⟩
  refine AWp_seqK fun Y0 y0 => ?_
  refine AWp_region ?_
  simp only [↓bO, go_sem, seval, hi, gM hv, intC]
  refine y0 _ ?_
  try clear y0 Y0
  refine AWp_seqK fun Y0 y0 => ?_
  refine AWp_region ?_
  iterate 4 (refine aops_chunk 1 fun Q0 q0 => ?_; simp only [↓bO, go_sem, seval, hi, gM hv, intC]; refine q0 _ ?_; clear q0 Q0; simp only [go_sem])
  simp only [↓bO, go_sem, seval, hi, gM hv, intC]
  refine y0 _ ?_
  try clear y0 Y0
  refine AWp_ret ?_
  try simp only [thenQ, blockQ, noGotoQ, retQ, aRes, tupOf, bS, bA]
  rw [List.getD_eq_getElem?_getD, hv]; exact Le.refl _
theorem SCanon_pure (s : Sch) (hc : s.t.cnt ≤ 1048576) (hv : s.vs.length ≤ 1048576) : APure Tryd.prog 50 [.agg s.cells] (.agg (canonS s).cells) := by
  refine APure.mkL (.cons Sch.agg .nil) (Sch.agg) ?_
  refine ACalls_intro Tryd.func50 (by kernel_rfl) rfl (by rw [Tryd.ntmps50]; simp) (fun hm => ?_)
  simp only [Tryd.ntmps50, Tryd.results50, List.length_cons, List.length_nil, Nat.reduceAdd, Nat.reduceSub, List.replicate_succ, List.replicate_zero, List.cons_append, List.nil_append]
  have hfl := s.free_len
  refine AWp_joinZ (mB 33 6) ([(1, .eptr s.cells), (2, .ptr 1 0)]) [(1, .cells 31 [.v (.slice none 0 0), .v (.int .i64 0), .v (.int .i64 0), .v (.slice none 0 0)])] 2 (True) ?_ (fun hC => ?_)
  ·
   refine AWp_region ?_
   refine aops_chunk 1 fun Q0 q0 => ?_
   simp only [↓bO, go_sem, seval, Sch.cells]
   refine q0 _ ?_
   clear q0 Q0
   simp only [go_sem]
   simp only [↓bO, go_sem, seval, Sch.cells]
   try simp only [maskL, setsL, putsO, putO, mB, List.set_cons_zero, List.set_cons_succ, seval]
   first | refine ⟨trivial, ?_⟩ | skip
   refine Weak.freeze ?_ ⟨rfl, trivial⟩ (by first | omega | (simp only; omega)) (by first | omega | (simp only; omega)) ?_ ?_
   · repeat' first | trivial | exact .inr ⟨_, _, _, rfl, rfl, rfl, rfl⟩ | exact .inl (.refl _) | exact .inl (.any _) | (refine ⟨?_, ?_⟩)
   · repeat' first | exact trivial | exact .any _ | exact .v _ _ | exact .ptr (by omega) | exact Und.data (dataInts _) | exact Und.data Sch.eptr | exact Und.data Sch.agg | exact Und.data (Ty.dataSl _) | exact Und.data (.eptr (Ty.data _)) | exact Und.data (.eptr (.cons (dataInts _) .nil)) | exact .own (by omega) | (refine ⟨?_, ?_⟩)
   · repeat' first | exact trivial | (with_reducible omega) | exact Und.rowI (iD_data _) | exact UndL.data (Ty.data _) | exact UndL.data (Sch.data _) | exact .v _ _ | (refine ⟨?_, ?_⟩)
  simp only [maskL, setsL, putsO, putO, mB, List.set_cons_zero, List.set_cons_succ, seval]
  refine AWp_seqK fun Y0 y0 => ?_
  refine AWp_seqK fun Y1 y1 => ?_
  refine AWp_region ?_
  refine aops_chunk 1 fun Q0 q0 => ?_
  simp only [↓bO, go_sem, seval, Sch.cells]
  refine q0 _ ?_
  clear q0 Q0
  simp only [go_sem]
  refine aops_chunk 1 fun Q0 q0 => ?_
  simp only [↓bO, go_sem, seval, Sch.cells]
  refine APure.call (SRight_pure s hc (by omega)) ?_
  try simp only [bS, bA, thenQ, blockQ, noGotoQ]
  refine q0 _ ?_
  clear q0 Q0
  simp only [go_sem]
  simp only [↓bO, go_sem, seval, Sch.cells]
  refine y1 _ ?_
  try clear y1 Y1
  refine AWp_cond rfl (fun hb8 => ?_) (fun hb8 => ?_)
  ·
   have hok : s.ok = false := by simpa using hb8
   refine AWp_seqK fun Y1 y1 => ?_
   refine AWp_region ?_
   refine aops_chunk 1 fun Q0 q0 => ?_
   simp only [↓bO, go_sem, seval, Sch.cells]
   refine q0 _ ?_
   clear q0 Q0
   simp only [go_sem]
   simp only [↓bO, go_sem, seval, Sch.cells]
   refine y1 _ ?_
   try clear y1 Y1
   refine AWp_ret ?_
   try simp only [thenQ, blockQ, noGotoQ, retQ, aRes, tupOf, bS, bA, aLoad, getO, pack, bL, Nat.reduceAdd, Nat.reduceLeDiff, Nat.reduceEqDiff, ↓reduceIte, ti31, tyX, Sch.cells, List.length_map]
   unfold canonS
   rw [if_neg (by rw [hok]; decide)]
   exact zSch_le
  ·
   have hok : s.ok = true := by simpa using hb8
   refine AWp_skip ?_
   try simp only [thenQ, blockQ, noGotoQ]
   refine y0 _ ?_
   try clear y0 Y0
   refine AWp_seqK fun Y0 y0 => ?_
   refine AWp_region ?_
   refine aops_chunk 1 fun Q0 q0 => ?_
   simp only [↓bO, go_sem, seval, Sch.cells]
   refine q0 _ ?_
   clear q0 Q0
   simp only [go_sem]
   refine aops_chunk 1 fun Q0 q0 => ?_
   simp only [↓bO, go_sem, seval, Sch.cells]
   refine APure.call ((show APure Tryd.prog 19 [.agg s.cells] (.sl 1 (s.free.map intC)) from by have h9 := SFree_pure s hc (by omega); rw [if_pos hok] at h9; exact h9)) ?_
   try simp only [bS, bA, thenQ, blockQ, noGotoQ]
   refine q0 _ ?_
   clear q0 Q0
   simp only [go_sem]
   simp only [↓bO, go_sem, seval, Sch.cells]
   refine y0 _ ?_
   try clear y0 Y0
   refine AWp_seqK fun Y0 y0 => ?_
   refine AWp_region ?_
   simp only [↓bO, go_sem, seval, Sch.cells]
   refine y0 _ ?_
   try clear y0 Y0
   refine AWp_joinZ (mB 33 22) ([(4, .eptr [.sl 1 ((canonL s.free s.vs.length).map intC)])]) [(1, .cells 31 [.v (.slice none 0 0), .v (.int .i64 0), .v (.int .i64 0), .v (.slice none 0 0)])] 2 (True) ?_ (fun hC => ?_)
   ·
    refine AWp_seqK fun Y0 y0 => ?_
    refine AWp_region ?_
    simp only [↓bO, go_sem, seval, Sch.cells]
    refine y0 _ ?_
    try clear y0 Y0
    refine AWp_block ?_
    refine AWp_weak (Weak.tokCell 3 1 (id := 2) (t := 22) [.osl 3 1 []] rfl ⟨.inr ⟨rfl, rfl⟩, trivial⟩) ?_
    simp only [putO, Nat.reduceEqDiff, ↓reduceIte]
    refine AWp_loopM (σ := Nat) (mB 33 62) (fun z => (natsN s.free z).length ≤ s.vs.length) (fun z => [(4, .ptr 2 0), (5, .v (.int .i64 (z : Int)))]) (fun z => [(2, .cells 22 [.osl 3 1 ((natsN s.free z).map intC)]), (3, .tok 3 1 (natsN s.free z).length)]) (fun z => s.vs.length + s.free.length + 1 - z) 0 ((by simp [natsN])) ?_ (fun z hz => ?_)
    ·
     simp only [maskL, setsL, putsO, putO, mB, List.set_cons_zero, List.set_cons_succ, seval, natsN, List.range_zero, bL, List.filter_nil]
     exact Weak.mk (by simp only [go_sem, Le.refl, Le.any, Le.slNil, Int.natCast_add, Int.cast_ofNat_Int, Int.natCast_one]) (fun _ _ h => h) rfl rfl
    simp only [maskL, setsL, putsO, putO, mB, List.set_cons_zero, List.set_cons_succ, seval]
    refine AWp_seqK fun Y0 y0 => ?_
    refine AWp_seqK fun Y1 y1 => ?_
    refine AWp_region ?_
    iterate 5 (refine aops_chunk 1 fun Q0 q0 => ?_; simp only [↓bO, go_sem, seval, Sch.cells]; refine q0 _ ?_; clear q0 Q0; simp only [go_sem])
    simp only [↓bO, go_sem, seval, Sch.cells]
    refine y1 _ ?_
    try clear y1 Y1
    refine AWp_cond rfl (fun hb17 => ?_) (fun hb17 => ?_)
    ·
     have hk : (natsN s.free z).length < s.vs.length := by (have h9 := hb17; simp at h9; omega)
     have hzl := natsN_len s.free z
     have hw : IntKind.i64.wrap ((z : Int) + 1) = (z : Int) + 1 := wrap_in (by omega) (by omega)
     have hb1 : ((natsN s.free z).length + 1) * 8 ≤ 140737488355328 := by omega
     have hb2 : (natsN s.free z).length + 1 ≤ maxLen := by (simp only [maxLen]; omega)
     refine AWp_skip ?_
     try simp only [thenQ, blockQ, noGotoQ]
     refine y0 _ ?_
     try clear y0 Y0
     refine AWp_seqK fun Y0 y0 => ?_
     refine AWp_block ?_
     refine AWp_seqK fun Y1 y1 => ?_
     refine AWp_region ?_
     iterate 2 (refine aops_chunk 1 fun Q0 q0 => ?_; simp only [↓bO, go_sem, seval, Sch.cells, hw, hb1, hb2, intC, Int.natCast_add]; refine q0 _ ?_; clear q0 Q0; simp only [go_sem])
     refine aops_chunk 1 fun Q0 q0 => ?_
     simp only [↓bO, go_sem, seval, Sch.cells, hw, hb1, hb2, intC, Int.natCast_add]
     refine APure.call (Cont_pure s.free (z : Int) (by omega)) ?_
     try simp only [bS, bA, thenQ, blockQ, noGotoQ]
     refine q0 _ ?_
     clear q0 Q0
     simp only [go_sem]
     simp only [↓bO, go_sem, seval, Sch.cells, hw, hb1, hb2, intC, Int.natCast_add]
     refine y1 _ ?_
     try clear y1 Y1
     refine AWp_cond rfl (fun hb23 => ?_) (fun hb23 => ?_)
     ·
      have hin : decide ((z : Int) ∈ s.free) = false := by simpa using hb23
      have hst : natsN s.free (z + 1) = (natsN s.free z) ++ [(z : Int)] := by (rw [natsN_step, if_neg (by simp [hin])])
      refine AWp_region ?_
      iterate 2 (refine aops_chunk 1 fun Q0 q0 => ?_; simp only [↓bO, go_sem, seval, Sch.cells, hw, hb1, hb2, intC, Int.natCast_add, hst, List.map_append, List.length_append]; refine q0 _ ?_; clear q0 Q0; simp only [go_sem])
      refine aops_chunk 1 fun Q0 q0 => ?_
      simp only [↓bO, go_sem, seval, ↓bs1_1, ↓bs1_2, ↓bs1_3, ↓bs1_4, ↓bs1_5, ↓bs1_6, ↓bs1_7, ↓bs1_8, ↓bs1_9, ↓bs1_10, ↓bs1_11, ↓bs1_12, Sch.cells, hw, hb1, hb2, intC, Int.natCast_add, hst, List.map_append, List.length_append]
      refine q0 _ ?_
      clear q0 Q0
      simp only [go_sem]
      refine aops_chunk 1 fun Q0 q0 => ?_
      simp only [↓bO, go_sem, seval, Sch.cells, hw, hb1, hb2, intC, Int.natCast_add, hst, List.map_append, List.length_append]
      refine q0 _ ?_
      clear q0 Q0
      simp only [go_sem]
      simp only [↓bO, go_sem, seval, Sch.cells, hw, hb1, hb2, intC, Int.natCast_add, hst, List.map_append, List.length_append]
      refine y0 _ ?_
      try clear y0 Y0
      refine AWp_region ?_
      iterate 2 (refine aops_chunk 1 fun Q0 q0 => ?_; simp only [↓bO, go_sem, seval, Sch.cells, hw, hb1, hb2, intC, Int.natCast_add, hst, List.map_append, List.length_append]; refine q0 _ ?_; clear q0 Q0; simp only [go_sem])
      simp only [↓bO, go_sem, seval, Sch.cells, hw, hb1, hb2, intC, Int.natCast_add, hst, List.map_append, List.length_append]
      refine ⟨z + 1, (by rw [hst]; first | exact hz | (rw [List.length_append]; simp only [List.length_cons, List.length_nil]; omega)), (by have h9 := natsN_len s.free z; omega), ?_⟩
      simp only [maskL, setsL, putsO, putO, mB, List.set_cons_zero, List.set_cons_succ, seval, hw, hb1, hb2, intC, Int.natCast_add, Int.natCast_one, hst, List.map_append, bL, List.length_append]
      exact Weak.mk (by simp only [go_sem, Le.refl, Le.any, Le.slNil, Int.natCast_add, Int.cast_ofNat_Int, Int.natCast_one]) (fun _ _ h => h) rfl rfl
     ·
      have hin : decide ((z : Int) ∈ s.free) = true := by simpa using hb23
      have hst : natsN s.free (z + 1) = (natsN s.free z) := by (rw [natsN_step, if_pos hin])
      refine AWp_skip ?_
      try simp only [thenQ, blockQ, noGotoQ]
      refine y0 _ ?_
      try clear y0 Y0
      refine AWp_region ?_
      iterate 2 (refine aops_chunk 1 fun Q0 q0 => ?_; simp only [↓bO, go_sem, seval, Sch.cells, hw, hb1, hb2, intC, Int.natCast_add, hst]; refine q0 _ ?_; clear q0 Q0; simp only [go_sem])
      simp only [↓bO, go_sem, seval, Sch.cells, hw, hb1, hb2, intC, Int.natCast_add, hst]
      refine ⟨z + 1, (by rw [hst]; first | exact hz | (rw [List.length_append]; simp only [List.length_cons, List.length_nil]; omega)), (by have h9 := natsN_len s.free z; omega), ?_⟩
      simp only [maskL, setsL, putsO, putO, mB, List.set_cons_zero, List.set_cons_succ, seval, hw, hb1, hb2, intC, Int.natCast_add, Int.natCast_one, hst]
      exact Weak.mk (by simp only [go_sem, Le.refl, Le.any, Le.slNil, Int.natCast_add, Int.cast_ofNat_Int, Int.natCast_one]) (fun _ _ h => h) rfl rfl
    ·
     have hk : (natsN s.free z).length = s.vs.length := by (have h9 := hb17; simp at h9; omega)
     rw [canonL_at hk]
     refine AWp_exit ?_
     simp only [thenQ, blockQ, noGotoQ, bA, Nat.reduceEqDiff, ↓reduceIte]
     try simp only [maskL, setsL, putsO, putO, mB, List.set_cons_zero, List.set_cons_succ, seval]
     first | refine ⟨trivial, ?_⟩ | skip
     refine (Weak.recell (id := 2) (t := 22) (cs := [.osl 3 1 ((canonL s.free s.vs.length).map intC)]) [.sl 1 ((canonL s.free s.vs.length).map intC)] rfl ⟨Le.oslL, trivial⟩).trans ?_
     simp only [putO, Nat.reduceEqDiff, ↓reduceIte]
     refine Weak.freeze ?_ ⟨rfl, trivial⟩ (by first | omega | (simp only; omega)) (by first | omega | (simp only; omega)) ?_ ?_
     · repeat' first | trivial | exact .inr ⟨_, _, _, rfl, rfl, rfl, rfl⟩ | exact .inl (.refl _) | exact .inl (.any _) | (refine ⟨?_, ?_⟩)
     · repeat' first | exact trivial | exact .any _ | exact .v _ _ | exact .ptr (by omega) | exact Und.data (dataInts _) | exact Und.data Sch.eptr | exact Und.data Sch.agg | exact Und.data (Ty.dataSl _) | exact Und.data (.eptr (Ty.data _)) | exact Und.data (.eptr (.cons (dataInts _) .nil)) | exact .own (by omega) | (refine ⟨?_, ?_⟩)
     · repeat' first | exact trivial | (with_reducible omega) | exact Und.rowI (iD_data _) | exact UndL.data (Ty.data _) | exact UndL.data (Sch.data _) | exact .v _ _ | (refine ⟨?_, ?_⟩)
   simp only [maskL, setsL, putsO, putO, mB, List.set_cons_zero, List.set_cons_succ, seval]
   refine AWp_seqK fun Y0 y0 => ?_
   refine NAny_start 6 [1, 4] rfl mixed ?_
   dsimp only
   refine NAny_takeK 0 rfl (by kernel_rfl) (by kernel_rfl) (by kernel_rfl) (fun _ _ h => h) (by kernel_rfl) (fun d h => by cases h; rfl) (by kernel_rfl) (G' := [28, 1, 4]) (by kernel_rfl) fun Q0 q0 => ?_
   simp only [↓bO, go_sem, seval, nHead, isE, isSE, isV, Sch.cells]
   refine q0 _ ?_
   clear q0 Q0
   refine NAny_takeK 1 rfl (by kernel_rfl) (by kernel_rfl) (by kernel_rfl) (fun _ _ h => h) (by kernel_rfl) (fun d h => by cases h; rfl) (by kernel_rfl) (G' := [29, 28, 1, 4]) (by kernel_rfl) fun Q0 q0 => ?_
   simp only [↓bO, go_sem, seval, nHead, isE, isSE, isV, Sch.cells]
   refine q0 _ ?_
   clear q0 Q0
   refine NAny_all1 (i := 2) (by kernel_rfl) rfl (fun d h => by cases h; rfl) ?_
   refine aAt_op rfl rfl fun Q0 q0 => ?_
   simp only [↓bO, go_sem, seval, Sch.cells]
   refine q0 _ ⟨⟨rfl, rfl, rfl, rfl, trivial⟩, ?_⟩
   clear q0 Q0
   refine NAny_all1 (i := 3) (by kernel_rfl) rfl (fun d h => by cases h; rfl) ?_
   refine aAt_op rfl rfl fun Q0 q0 => ?_
   simp only [↓bO, go_sem, seval, Sch.cells]
   refine APure.call ((show APure Tryd.prog 52 [.agg s.cells, .clo 74 [.eptr [.sl 1 ((canonL s.free s.vs.length).map intC)]]] (.agg (s.t.sub (callB s.vs (canonL s.free s.vs.length))).cells) from by have h9 := called_pure s (fun i => (canonL s.free s.vs.length).getD i 0) 74 [.eptr [.sl 1 ((canonL s.free s.vs.length).map intC)]] hok hv hc (.cons (.eptr (.cons (dataInts _) .nil)) .nil) (fun i hi => Canon1_pure (canonL s.free s.vs.length) i (by rw [canonL_len]; exact hi)); rw [show (List.range s.vs.length).map (fun i => (canonL s.free s.vs.length).getD i 0) = (canonL s.free s.vs.length) from by (have h8 := getD_range (canonL s.free s.vs.length); rw [canonL_len] at h8; exact h8)] at h9; exact h9)) ?_
   try simp only [bS, bA]
   refine q0 _ ⟨⟨rfl, rfl, rfl, rfl, trivial⟩, ?_⟩
   clear q0 Q0
   refine NAny_all1 (i := 4) (by kernel_rfl) rfl (fun d h => by cases h; rfl) ?_
   refine aAt_op rfl rfl fun Q0 q0 => ?_
   simp only [↓bO, go_sem, seval, Sch.cells]
   refine q0 _ ⟨⟨rfl, rfl, rfl, rfl, trivial⟩, ?_⟩
   clear q0 Q0
   refine NAny_all1 (i := 5) (by kernel_rfl) rfl (fun d h => by cases h) ?_
   refine aAt_op rfl rfl fun Q0 q0 => ?_
   simp only [↓bO, go_sem, seval, Sch.cells]
   refine q0 _ ⟨⟨rfl, rfl, rfl, rfl, trivial⟩, ?_⟩
   clear q0 Q0
   refine NAny_done (by kernel_rfl) ?_
   simp only [thenQ, blockQ, noGotoQ]
   refine y0 _ ?_
   try clear y0 Y0
   refine AWp_ret ?_
   try simp only [thenQ, blockQ, noGotoQ, retQ, aRes, tupOf, bS, bA, aLoad, getO, pack, bL, Nat.reduceAdd, Nat.reduceLeDiff, Nat.reduceEqDiff, ↓reduceIte, ti31, tyX, Sch.cells, List.length_map]
   unfold canonS
   rw [if_pos hok]
   exact Le.refl _
theorem Sch.great_spec {s : Sch} (h : s.great = false) : s.t.cnt ≤ 300 ∧ s.vs.length ≤ 40 := by
  unfold Sch.great at h
  rw [Bool.or_eq_false_iff, decide_eq_false_iff_not] at h
  exact ⟨Ty.great_cnt h.1, by omega⟩
def alikeC (a b : Sch) : Bool := a.ok && b.ok && decide ((canonS a).vs = (canonS b).vs) && (canonS a).t.same (canonS b).t
theorem canonS_inst {s : Sch} (h : s.ok = true) (t : Ty) : Inst s t ↔ Inst (canonS s) t := by
  unfold canonS
  rw [if_pos h]
  exact inst_call h (canonL_len _ _).symm (canonL_nodup _ _) fun v hv hc => canonL_out hc hv
theorem alike_inst {a b : Sch} (h : alikeC a b = true) (t : Ty) : instC a t = instC b t := by
  unfold alikeC at h
  rw [Bool.and_eq_true, Bool.and_eq_true, Bool.and_eq_true, decide_eq_true_eq] at h
  obtain ⟨⟨⟨h1, h2⟩, h3⟩, h4⟩ := h
  have h5 : canonS a = canonS b := by
    have h6 := (Ty.same_iff _ _).1 h4
    generalize canonS a = x at h3 h6
    generalize canonS b = y at h3 h6
    cases x; cases y
    simp only at h3 h6
    rw [h3, h6]
  rw [Bool.eq_iff_iff, instC_iff, instC_iff, canonS_inst h1, canonS_inst h2, h5, h1, h2]
theorem more_inst {a b : Sch} {t : Ty} (h1 : moreC a b = true) (h2 : instC b t = true) : instC a t = true := by
  unfold moreC at h1
  rw [Bool.and_eq_true, Bool.and_eq_true, Bool.and_eq_true, Bool.not_eq_true', List.any_eq_false] at h1
  obtain ⟨⟨⟨ha, hb⟩, hi⟩, hf⟩ := h1
  obtain ⟨_, ht, h3⟩ := (instC_iff b t).1 h2
  exact (instC_iff a t).2 ⟨ha, ht, inst_trans ha ((instC_iff a b.t).1 hi).2.2 (fun v hv => by simpa using hf v hv) h3⟩
theorem SAlike_pure (a b : Sch) (hca : a.t.cnt ≤ 1048576) (hva : a.vs.length ≤ 1048576) (hcb : b.t.cnt ≤ 1048576) (hvb : b.vs.length ≤ 1048576) (hl : (canonS a).vs.length ≤ 1099511627776) : APure Tryd.prog 24 [.agg a.cells, .agg b.cells] (.v (.bool (alikeC a b))) := by
  refine APure.mkL (.cons Sch.agg (.cons Sch.agg .nil)) (.v _) ?_
  refine ACalls_intro Tryd.func24 (by kernel_rfl) rfl (by rw [Tryd.ntmps24]; simp) (fun hm => ?_)
  simp only [Tryd.ntmps24, Tryd.results24, List.length_cons, List.length_nil, Nat.reduceAdd, Nat.reduceSub, List.replicate_succ, List.replicate_zero, List.cons_append, List.nil_append]
  refine AWp_joinZ (mB 31 12) ([(2, .eptr a.cells), (3, .eptr b.cells)]) [] 0 (True) ?_ (fun hC => ?_)
  ·
   refine AWp_region ?_
   iterate 2 (refine aops_chunk 1 fun Q0 q0 => ?_; simp only [↓bO, go_sem, seval, Sch.cells]; refine q0 _ ?_; clear q0 Q0; simp only [go_sem])
   simp only [↓bO, go_sem, seval, Sch.cells]
   try simp only [maskL, setsL, putsO, putO, mB, List.set_cons_zero, List.set_cons_succ, seval]
   first | refine ⟨trivial, ?_⟩ | skip
   refine Weak.freeze ?_ trivial (by first | omega | (simp only; omega)) (by first | omega | (simp only; omega)) ?_ ?_
   · repeat' first | trivial | exact .inr ⟨_, _, _, rfl, rfl, rfl, rfl⟩ | exact .inl (.refl _) | exact .inl (.any _) | (refine ⟨?_, ?_⟩)
   · repeat' first | exact trivial | exact .any _ | exact .v _ _ | exact .ptr (by omega) | exact Und.data (dataInts _) | exact Und.data Sch.eptr | exact Und.data Sch.agg | exact Und.data (Ty.dataSl _) | exact Und.data (.eptr (Ty.data _)) | exact Und.data (.eptr (.cons (dataInts _) .nil)) | exact .own (by omega) | (refine ⟨?_, ?_⟩)
   · repeat' first | exact trivial | (with_reducible omega) | exact Und.rowI (iD_data _) | exact UndL.data (Ty.data _) | exact UndL.data (Sch.data _) | exact .v _ _ | (refine ⟨?_, ?_⟩)
  simp only [maskL, setsL, putsO, putO, mB, List.set_cons_zero, List.set_cons_succ, seval]
  refine AWp_joinZ (mB 31 108) ([(5, .eptr (canonS a).cells), (6, .eptr (canonS b).cells)]) [] 0 (True) ?_ (fun hC => ?_)
  ·
   refine NAny_start 8 [2, 3] rfl mixed ?_
   dsimp only
   refine NAny_takeK 0 rfl (by kernel_rfl) (by kernel_rfl) (by kernel_rfl) (fun _ _ h => h) (by kernel_rfl) (fun d h => by cases h; rfl) (by kernel_rfl) (G' := [7, 2, 3]) (by kernel_rfl) fun Q0 q0 => ?_
   simp only [↓bO, go_sem, seval, nHead, isE, isSE, isV, Sch.cells]
   refine q0 _ ?_
   clear q0 Q0
   refine NAny_takeK 2 rfl (by kernel_rfl) (by kernel_rfl) (by kernel_rfl) (fun _ _ h => h) (by kernel_rfl) (fun d h => by cases h; rfl) (by kernel_rfl) (G' := [9, 7, 2, 3]) (by kernel_rfl) fun Q0 q0 => ?_
   simp only [↓bO, go_sem, seval, nHead, isE, isSE, isV, Sch.cells]
   refine q0 _ ?_
   clear q0 Q0
   refine NAny_all3 (i := 1) (j := 4) (k := 5) (by kernel_rfl) rfl rfl rfl (fun d h => by cases h; rfl) (fun d h => by cases h; rfl) (fun d h => by cases h; rfl) ?_ ?_ ?_
   ·
    refine aAt_op rfl rfl fun Q0 q0 => ?_
    simp only [↓bO, go_sem, seval, Sch.cells]
    refine APure.call (SCanon_pure a hca hva) ?_
    try simp only [bS, bA]
    refine q0 _ ⟨⟨rfl, rfl, rfl, rfl, trivial⟩, ?_⟩
    clear q0 Q0
    refine NAny_all3 (i := 3) (j := 4) (k := 5) (by kernel_rfl) rfl rfl rfl (fun d h => by cases h; rfl) (fun d h => by cases h; rfl) (fun d h => by cases h; rfl) ?_ ?_ ?_
    ·
     refine aAt_op rfl rfl fun Q0 q0 => ?_
     simp only [↓bO, go_sem, seval, Sch.cells]
     refine APure.call (SCanon_pure b hcb hvb) ?_
     try simp only [bS, bA]
     refine q0 _ ⟨⟨rfl, rfl, rfl, rfl, trivial⟩, ?_⟩
     clear q0 Q0
     refine NAny_all2 (i := 4) (j := 5) (by kernel_rfl) rfl rfl (fun d h => by cases h; rfl) (fun d h => by cases h; rfl) ?_ ?_
     ·
      refine aAt_op rfl rfl fun Q0 q0 => ?_
      simp only [↓bO, go_sem, seval, Sch.cells]
      refine q0 _ ⟨⟨rfl, rfl, rfl, rfl, trivial⟩, ?_⟩
      clear q0 Q0
      refine NAny_all1 (i := 5) (by kernel_rfl) rfl (fun d h => by cases h; rfl) ?_
      refine aAt_op rfl rfl fun Q0 q0 => ?_
      simp only [↓bO, go_sem, seval, Sch.cells]
      refine q0 _ ⟨⟨rfl, rfl, rfl, rfl, trivial⟩, ?_⟩
      clear q0 Q0
      refine NAny_all1 (i := 6) (by kernel_rfl) rfl (fun d h => by cases h) ?_
      refine aAt_op rfl rfl fun Q0 q0 => ?_
      simp only [↓bO, go_sem, seval, Sch.cells]
      refine q0 _ ⟨⟨rfl, rfl, rfl, rfl, trivial⟩, ?_⟩
      clear q0 Q0
      refine NAny_all1 (i := 7) (by kernel_rfl) rfl (fun d h => by cases h) ?_
      refine aAt_op rfl rfl fun Q0 q0 => ?_
      simp only [↓bO, go_sem, seval, Sch.cells]
      refine q0 _ ⟨⟨rfl, rfl, rfl, rfl, trivial⟩, ?_⟩
      clear q0 Q0
      refine NAny_done (by kernel_rfl) ?_
      simp only [thenQ, blockQ, noGotoQ]
      try simp only [maskL, setsL, putsO, putO, mB, List.set_cons_zero, List.set_cons_succ, seval]
      first | refine ⟨trivial, ?_⟩ | skip
      refine Weak.freeze ?_ trivial (by first | omega | (simp only; omega)) (by first | omega | (simp only; omega)) ?_ ?_
      · repeat' first | trivial | exact .inr ⟨_, _, _, rfl, rfl, rfl, rfl⟩ | exact .inl (.refl _) | exact .inl (.any _) | (refine ⟨?_, ?_⟩)
      · repeat' first | exact trivial | exact .any _ | exact .v _ _ | exact .ptr (by omega) | exact Und.data (dataInts _) | exact Und.data Sch.eptr | exact Und.data Sch.agg | exact Und.data (Ty.dataSl _) | exact Und.data (.eptr (Ty.data _)) | exact Und.data (.eptr (.cons (dataInts _) .nil)) | exact .own (by omega) | (refine ⟨?_, ?_⟩)
      · repeat' first | exact trivial | (with_reducible omega) | exact Und.rowI (iD_data _) | exact UndL.data (Ty.data _) | exact UndL.data (Sch.data _) | exact .v _ _ | (refine ⟨?_, ?_⟩)
     ·
      refine aAt_op rfl rfl fun Q0 q0 => ?_
      simp only [↓bO, go_sem, seval, Sch.cells]
      refine q0 _ ⟨⟨rfl, rfl, rfl, rfl, trivial⟩, ?_⟩
      clear q0 Q0
      refine NAny_all1 (i := 4) (by kernel_rfl) rfl (fun d h => by cases h; rfl) ?_
      refine aAt_op rfl rfl fun Q0 q0 => ?_
      simp only [↓bO, go_sem, seval, Sch.cells]
      refine q0 _ ⟨⟨rfl, rfl, rfl, rfl, trivial⟩, ?_⟩
      clear q0 Q0
      refine NAny_all1 (i := 6) (by kernel_rfl) rfl (fun d h => by cases h) ?_
      refine aAt_op rfl rfl fun Q0 q0 => ?_
      simp only [↓bO, go_sem, seval, Sch.cells]
      refine q0 _ ⟨⟨rfl, rfl, rfl, rfl, trivial⟩, ?_⟩
      clear q0 Q0
      refine NAny_all1 (i := 7) (by kernel_rfl) rfl (fun d h => by cases h) ?_
      refine aAt_op rfl rfl fun Q0 q0 => ?_
      simp only [↓bO, go_sem, seval, Sch.cells]
      refine q0 _ ⟨⟨rfl, rfl, rfl, rfl, trivial⟩, ?_⟩
      clear q0 Q0
      refine NAny_done (by kernel_rfl) ?_
      simp only [thenQ, blockQ, noGotoQ]
      try simp only [maskL, setsL, putsO, putO, mB, List.set_cons_zero, List.set_cons_succ, seval]
      first | refine ⟨trivial, ?_⟩ | skip
      refine Weak.freeze ?_ trivial (by first | omega | (simp only; omega)) (by first | omega | (simp only; omega)) ?_ ?_
      · repeat' first | trivial | exact .inr ⟨_, _, _, rfl, rfl, rfl, rfl⟩ | exact .inl (.refl _) | exact .inl (.any _) | (refine ⟨?_, ?_⟩)
      · repeat' first | exact trivial | exact .any _ | exact .v _ _ | exact .ptr (by omega) | exact Und.data (dataInts _) | exact Und.data Sch.eptr | exact Und.data Sch.agg | exact Und.data (Ty.dataSl _) | exact Und.data (.eptr (Ty.data _)) | exact Und.data (.eptr (.cons (dataInts _) .nil)) | exact .own (by omega) | (refine ⟨?_, ?_⟩)
      · repeat' first | exact trivial | (with_reducible omega) | exact Und.rowI (iD_data _) | exact UndL.data (Ty.data _) | exact UndL.data (Sch.data _) | exact .v _ _ | (refine ⟨?_, ?_⟩)
    ·
     refine aAt_op rfl rfl fun Q0 q0 => ?_
     simp only [↓bO, go_sem, seval, Sch.cells]
     refine q0 _ ⟨⟨rfl, rfl, rfl, rfl, trivial⟩, ?_⟩
     clear q0 Q0
     refine NAny_all2 (i := 3) (j := 5) (by kernel_rfl) rfl rfl (fun d h => by cases h; rfl) (fun d h => by cases h; rfl) ?_ ?_
     ·
      refine aAt_op rfl rfl fun Q0 q0 => ?_
      simp only [↓bO, go_sem, seval, Sch.cells]
      refine APure.call (SCanon_pure b hcb hvb) ?_
      try simp only [bS, bA]
      refine q0 _ ⟨⟨rfl, rfl, rfl, rfl, trivial⟩, ?_⟩
      clear q0 Q0
      refine NAny_all1 (i := 5) (by kernel_rfl) rfl (fun d h => by cases h; rfl) ?_
      refine aAt_op rfl rfl fun Q0 q0 => ?_
      simp only [↓bO, go_sem, seval, Sch.cells]
      refine q0 _ ⟨⟨rfl, rfl, rfl, rfl, trivial⟩, ?_⟩
      clear q0 Q0
      refine NAny_all1 (i := 6) (by kernel_rfl) rfl (fun d h => by cases h) ?_
      refine aAt_op rfl rfl fun Q0 q0 => ?_
      simp only [↓bO, go_sem, seval, Sch.cells]
      refine q0 _ ⟨⟨rfl, rfl, rfl, rfl, trivial⟩, ?_⟩
      clear q0 Q0
      refine NAny_all1 (i := 7) (by kernel_rfl) rfl (fun d h => by cases h) ?_
      refine aAt_op rfl rfl fun Q0 q0 => ?_
      simp only [↓bO, go_sem, seval, Sch.cells]
      refine q0 _ ⟨⟨rfl, rfl, rfl, rfl, trivial⟩, ?_⟩
      clear q0 Q0
      refine NAny_done (by kernel_rfl) ?_
      simp only [thenQ, blockQ, noGotoQ]
      try simp only [maskL, setsL, putsO, putO, mB, List.set_cons_zero, List.set_cons_succ, seval]
      first | refine ⟨trivial, ?_⟩ | skip
      refine Weak.freeze ?_ trivial (by first | omega | (simp only; omega)) (by first | omega | (simp only; omega)) ?_ ?_
      · repeat' first | trivial | exact .inr ⟨_, _, _, rfl, rfl, rfl, rfl⟩ | exact .inl (.refl _) | exact .inl (.any _) | (refine ⟨?_, ?_⟩)
      · repeat' first | exact trivial | exact .any _ | exact .v _ _ | exact .ptr (by omega) | exact Und.data (dataInts _) | exact Und.data Sch.eptr | exact Und.data Sch.agg | exact Und.data (Ty.dataSl _) | exact Und.data (.eptr (Ty.data _)) | exact Und.data (.eptr (.cons (dataInts _) .nil)) | exact .own (by omega) | (refine ⟨?_, ?_⟩)
      · repeat' first | exact trivial | (with_reducible omega) | exact Und.rowI (iD_data _) | exact UndL.data (Ty.data _) | exact UndL.data (Sch.data _) | exact .v _ _ | (refine ⟨?_, ?_⟩)
     ·
      refine aAt_op rfl rfl fun Q0 q0 => ?_
      simp only [↓bO, go_sem, seval, Sch.cells]
      refine q0 _ ⟨⟨rfl, rfl, rfl, rfl, trivial⟩, ?_⟩
      clear q0 Q0
      refine NAny_all1 (i := 3) (by kernel_rfl) rfl (fun d h => by cases h; rfl) ?_
      refine aAt_op rfl rfl fun Q0 q0 => ?_
      simp only [↓bO, go_sem, seval, Sch.cells]
      refine APure.call (SCanon_pure b hcb hvb) ?_
      try simp only [bS, bA]
      refine q0 _ ⟨⟨rfl, rfl, rfl, rfl, trivial⟩, ?_⟩
      clear q0 Q0
      refine NAny_all1 (i := 6) (by kernel_rfl) rfl (fun d h => by cases h) ?_
      refine aAt_op rfl rfl fun Q0 q0 => ?_
      simp only [↓bO, go_sem, seval, Sch.cells]
      refine q0 _ ⟨⟨rfl, rfl, rfl, rfl, trivial⟩, ?_⟩
      clear q0 Q0
      refine NAny_all1 (i := 7) (by kernel_rfl) rfl (fun d h => by cases h) ?_
      refine aAt_op rfl rfl fun Q0 q0 => ?_
      simp only [↓bO, go_sem, seval, Sch.cells]
      refine q0 _ ⟨⟨rfl, rfl, rfl, rfl, trivial⟩, ?_⟩
      clear q0 Q0
      refine NAny_done (by kernel_rfl) ?_
      simp only [thenQ, blockQ, noGotoQ]
      try simp only [maskL, setsL, putsO, putO, mB, List.set_cons_zero, List.set_cons_succ, seval]
      first | refine ⟨trivial, ?_⟩ | skip
      refine Weak.freeze ?_ trivial (by first | omega | (simp only; omega)) (by first | omega | (simp only; omega)) ?_ ?_
      · repeat' first | trivial | exact .inr ⟨_, _, _, rfl, rfl, rfl, rfl⟩ | exact .inl (.refl _) | exact .inl (.any _) | (refine ⟨?_, ?_⟩)
      · repeat' first | exact trivial | exact .any _ | exact .v _ _ | exact .ptr (by omega) | exact Und.data (dataInts _) | exact Und.data Sch.eptr | exact Und.data Sch.agg | exact Und.data (Ty.dataSl _) | exact Und.data (.eptr (Ty.data _)) | exact Und.data (.eptr (.cons (dataInts _) .nil)) | exact .own (by omega) | (refine ⟨?_, ?_⟩)
      · repeat' first | exact trivial | (with_reducible omega) | exact Und.rowI (iD_data _) | exact UndL.data (Ty.data _) | exact UndL.data (Sch.data _) | exact .v _ _ | (refine ⟨?_, ?_⟩)
    ·
     refine aAt_op rfl rfl fun Q0 q0 => ?_
     simp only [↓bO, go_sem, seval, Sch.cells]
     refine q0 _ ⟨⟨rfl, rfl, rfl, rfl, trivial⟩, ?_⟩
     clear q0 Q0
     refine NAny_all2 (i := 3) (j := 4) (by kernel_rfl) rfl rfl (fun d h => by cases h; rfl) (fun d h => by cases h; rfl) ?_ ?_
     ·
      refine aAt_op rfl rfl fun Q0 q0 => ?_
      simp only [↓bO, go_sem, seval, Sch.cells]
      refine APure.call (SCanon_pure b hcb hvb) ?_
      try simp only [bS, bA]
      refine q0 _ ⟨⟨rfl, rfl, rfl, rfl, trivial⟩, ?_⟩
      clear q0 Q0
      refine NAny_all1 (i := 4) (by kernel_rfl) rfl (fun d h => by cases h; rfl) ?_
      refine aAt_op rfl rfl fun Q0 q0 => ?_
      simp only [↓bO, go_sem, seval, Sch.cells]
      refine q0 _ ⟨⟨rfl, rfl, rfl, rfl, trivial⟩, ?_⟩
      clear q0 Q0
      refine NAny_all1 (i := 6) (by kernel_rfl) rfl (fun d h => by cases h) ?_
      refine aAt_op rfl rfl fun Q0 q0 => ?_
      simp only [↓bO, go_sem, seval, Sch.cells]
      refine q0 _ ⟨⟨rfl, rfl, rfl, rfl, trivial⟩, ?_⟩
      clear q0 Q0
      refine NAny_all1 (i := 7) (by kernel_rfl) rfl (fun d h => by cases h) ?_
      refine aAt_op rfl rfl fun Q0 q0 => ?_
      simp only [↓bO, go_sem, seval, Sch.cells]
      refine q0 _ ⟨⟨rfl, rfl, rfl, rfl, trivial⟩, ?_⟩
      clear q0 Q0
      refine NAny_done (by kernel_rfl) ?_
      simp only [thenQ, blockQ, noGotoQ]
      try simp only [maskL, setsL, putsO, putO, mB, List.set_cons_zero, List.set_cons_succ, seval]
      first | refine ⟨trivial, ?_⟩ | skip
      refine Weak.freeze ?_ trivial (by first | omega | (simp only; omega)) (by first | omega | (simp only; omega)) ?_ ?_
      · repeat' first | trivial | exact .inr ⟨_, _, _, rfl, rfl, rfl, rfl⟩ | exact .inl (.refl _) | exact .inl (.any _) | (refine ⟨?_, ?_⟩)
      · repeat' first | exact trivial | exact .any _ | exact .v _ _ | exact .ptr (by omega) | exact Und.data (dataInts _) | exact Und.data Sch.eptr | exact Und.data Sch.agg | exact Und.data (Ty.dataSl _) | exact Und.data (.eptr (Ty.data _)) | exact Und.data (.eptr (.cons (dataInts _) .nil)) | exact .own (by omega) | (refine ⟨?_, ?_⟩)
      · repeat' first | exact trivial | (with_reducible omega) | exact Und.rowI (iD_data _) | exact UndL.data (Ty.data _) | exact UndL.data (Sch.data _) | exact .v _ _ | (refine ⟨?_, ?_⟩)
     ·
      refine aAt_op rfl rfl fun Q0 q0 => ?_
      simp only [↓bO, go_sem, seval, Sch.cells]
      refine q0 _ ⟨⟨rfl, rfl, rfl, rfl, trivial⟩, ?_⟩
      clear q0 Q0
      refine NAny_all1 (i := 3) (by kernel_rfl) rfl (fun d h => by cases h; rfl) ?_
      refine aAt_op rfl rfl fun Q0 q0 => ?_
      simp only [↓bO, go_sem, seval, Sch.cells]
      refine APure.call (SCanon_pure b hcb hvb) ?_
      try simp only [bS, bA]
      refine q0 _ ⟨⟨rfl, rfl, rfl, rfl, trivial⟩, ?_⟩
      clear q0 Q0
      refine NAny_all1 (i := 6) (by kernel_rfl) rfl (fun d h => by cases h) ?_
      refine aAt_op rfl rfl fun Q0 q0 => ?_
      simp only [↓bO, go_sem, seval, Sch.cells]
      refine q0 _ ⟨⟨rfl, rfl, rfl, rfl, trivial⟩, ?_⟩
      clear q0 Q0
      refine NAny_all1 (i := 7) (by kernel_rfl) rfl (fun d h => by cases h) ?_
      refine aAt_op rfl rfl fun Q0 q0 => ?_
      simp only [↓bO, go_sem, seval, Sch.cells]
      refine q0 _ ⟨⟨rfl, rfl, rfl, rfl, trivial⟩, ?_⟩
      clear q0 Q0
      refine NAny_done (by kernel_rfl) ?_
      simp only [thenQ, blockQ, noGotoQ]
      try simp only [maskL, setsL, putsO, putO, mB, List.set_cons_zero, List.set_cons_succ, seval]
      first | refine ⟨trivial, ?_⟩ | skip
      refine Weak.freeze ?_ trivial (by first | omega | (simp only; omega)) (by first | omega | (simp only; omega)) ?_ ?_
      · repeat' first | trivial | exact .inr ⟨_, _, _, rfl, rfl, rfl, rfl⟩ | exact .inl (.refl _) | exact .inl (.any _) | (refine ⟨?_, ?_⟩)
      · repeat' first | exact trivial | exact .any _ | exact .v _ _ | exact .ptr (by omega) | exact Und.data (dataInts _) | exact Und.data Sch.eptr | exact Und.data Sch.agg | exact Und.data (Ty.dataSl _) | exact Und.data (.eptr (Ty.data _)) | exact Und.data (.eptr (.cons (dataInts _) .nil)) | exact .own (by omega) | (refine ⟨?_, ?_⟩)
      · repeat' first | exact trivial | (with_reducible omega) | exact Und.rowI (iD_data _) | exact UndL.data (Ty.data _) | exact UndL.data (Sch.data _) | exact .v _ _ | (refine ⟨?_, ?_⟩)
   ·
    refine aAt_op rfl rfl fun Q0 q0 => ?_
    simp only [↓bO, go_sem, seval, Sch.cells]
    refine q0 _ ⟨⟨rfl, rfl, rfl, rfl, trivial⟩, ?_⟩
    clear q0 Q0
    refine NAny_all2 (i := 1) (j := 5) (by kernel_rfl) rfl rfl (fun d h => by cases h; rfl) (fun d h => by cases h; rfl) ?_ ?_
    ·
     refine aAt_op rfl rfl fun Q0 q0 => ?_
     simp only [↓bO, go_sem, seval, Sch.cells]
     refine APure.call (SCanon_pure a hca hva) ?_
     try simp only [bS, bA]
     refine q0 _ ⟨⟨rfl, rfl, rfl, rfl, trivial⟩, ?_⟩
     clear q0 Q0
     refine NAny_all2 (i := 3) (j := 5) (by kernel_rfl) rfl rfl (fun d h => by cases h; rfl) (fun d h => by cases h; rfl) ?_ ?_
     ·
      refine aAt_op rfl rfl fun Q0 q0 => ?_
      simp only [↓bO, go_sem, seval, Sch.cells]
      refine APure.call (SCanon_pure b hcb hvb) ?_
      try simp only [bS, bA]
      refine q0 _ ⟨⟨rfl, rfl, rfl, rfl, trivial⟩, ?_⟩
      clear q0 Q0
      refine NAny_all1 (i := 5) (by kernel_rfl) rfl (fun d h => by cases h; rfl) ?_
      refine aAt_op rfl rfl fun Q0 q0 => ?_
      simp only [↓bO, go_sem, seval, Sch.cells]
      refine q0 _ ⟨⟨rfl, rfl, rfl, rfl, trivial⟩, ?_⟩
      clear q0 Q0
      refine NAny_all1 (i := 6) (by kernel_rfl) rfl (fun d h => by cases h) ?_
      refine aAt_op rfl rfl fun Q0 q0 => ?_
      simp only [↓bO, go_sem, seval, Sch.cells]
      refine q0 _ ⟨⟨rfl, rfl, rfl, rfl, trivial⟩, ?_⟩
      clear q0 Q0
      refine NAny_all1 (i := 7) (by kernel_rfl) rfl (fun d h => by cases h) ?_
      refine aAt_op rfl rfl fun Q0 q0 => ?_
      simp only [↓bO, go_sem, seval, Sch.cells]
      refine q0 _ ⟨⟨rfl, rfl, rfl, rfl, trivial⟩, ?_⟩
      clear q0 Q0
      refine NAny_done (by kernel_rfl) ?_
      simp only [thenQ, blockQ, noGotoQ]
      try simp only [maskL, setsL, putsO, putO, mB, List.set_cons_zero, List.set_cons_succ, seval]
      first | refine ⟨trivial, ?_⟩ | skip
      refine Weak.freeze ?_ trivial (by first | omega | (simp only; omega)) (by first | omega | (simp only; omega)) ?_ ?_
      · repeat' first | trivial | exact .inr ⟨_, _, _, rfl, rfl, rfl, rfl⟩ | exact .inl (.refl _) | exact .inl (.any _) | (refine ⟨?_, ?_⟩)
      · repeat' first | exact trivial | exact .any _ | exact .v _ _ | exact .ptr (by omega) | exact Und.data (dataInts _) | exact Und.data Sch.eptr | exact Und.data Sch.agg | exact Und.data (Ty.dataSl _) | exact Und.data (.eptr (Ty.data _)) | exact Und.data (.eptr (.cons (dataInts _) .nil)) | exact .own (by omega) | (refine ⟨?_, ?_⟩)
      · repeat' first | exact trivial | (with_reducible omega) | exact Und.rowI (iD_data _) | exact UndL.data (Ty.data _) | exact UndL.data (Sch.data _) | exact .v _ _ | (refine ⟨?_, ?_⟩)
     ·
      refine aAt_op rfl rfl fun Q0 q0 => ?_
      simp only [↓bO, go_sem, seval, Sch.cells]
      refine q0 _ ⟨⟨rfl, rfl, rfl, rfl, trivial⟩, ?_⟩
      clear q0 Q0
      refine NAny_all1 (i := 3) (by kernel_rfl) rfl (fun d h => by cases h; rfl) ?_
      refine aAt_op rfl rfl fun Q0 q0 => ?_
      simp only [↓bO, go_sem, seval, Sch.cells]
      refine APure.call (SCanon_pure b hcb hvb) ?_
      try simp only [bS, bA]
      refine q0 _ ⟨⟨rfl, rfl, rfl, rfl, trivial⟩, ?_⟩
      clear q0 Q0
      refine NAny_all1 (i := 6) (by kernel_rfl) rfl (fun d h => by cases h) ?_
      refine aAt_op rfl rfl fun Q0 q0 => ?_
      simp only [↓bO, go_sem, seval, Sch.cells]
      refine q0 _ ⟨⟨rfl, rfl, rfl, rfl, trivial⟩, ?_⟩
      clear q0 Q0
      refine NAny_all1 (i := 7) (by kernel_rfl) rfl (fun d h => by cases h) ?_
      refine aAt_op rfl rfl fun Q0 q0 => ?_
      simp only [↓bO, go_sem, seval, Sch.cells]
      refine q0 _ ⟨⟨rfl, rfl, rfl, rfl, trivial⟩, ?_⟩
      clear q0 Q0
      refine NAny_done (by kernel_rfl) ?_
      simp only [thenQ, blockQ, noGotoQ]
      try simp only [maskL, setsL, putsO, putO, mB, List.set_cons_zero, List.set_cons_succ, seval]
      first | refine ⟨trivial, ?_⟩ | skip
      refine Weak.freeze ?_ trivial (by first | omega | (simp only; omega)) (by first | omega | (simp only; omega)) ?_ ?_
      · repeat' first | trivial | exact .inr ⟨_, _, _, rfl, rfl, rfl, rfl⟩ | exact .inl (.refl _) | exact .inl (.any _) | (refine ⟨?_, ?_⟩)
      · repeat' first | exact trivial | exact .any _ | exact .v _ _ | exact .ptr (by omega) | exact Und.data (dataInts _) | exact Und.data Sch.eptr | exact Und.data Sch.agg | exact Und.data (Ty.dataSl _) | exact Und.data (.eptr (Ty.data _)) | exact Und.data (.eptr (.cons (dataInts _) .nil)) | exact .own (by omega) | (refine ⟨?_, ?_⟩)
      · repeat' first | exact trivial | (with_reducible omega) | exact Und.rowI (iD_data _) | exact UndL.data (Ty.data _) | exact UndL.data (Sch.data _) | exact .v _ _ | (refine ⟨?_, ?_⟩)
    ·
     refine aAt_op rfl rfl fun Q0 q0 => ?_
     simp only [↓bO, go_sem, seval, Sch.cells]
     refine q0 _ ⟨⟨rfl, rfl, rfl, rfl, trivial⟩, ?_⟩
     clear q0 Q0
     refine NAny_all1 (i := 1) (by kernel_rfl) rfl (fun d h => by cases h; rfl) ?_
     refine aAt_op rfl rfl fun Q0 q0 => ?_
     simp only [↓bO, go_sem, seval, Sch.cells]
     refine APure.call (SCanon_pure a hca hva) ?_
     try simp only [bS, bA]
     refine q0 _ ⟨⟨rfl, rfl, rfl, rfl, trivial⟩, ?_⟩
     clear q0 Q0
     refine NAny_all1 (i := 3) (by kernel_rfl) rfl (fun d h => by cases h; rfl) ?_
     refine aAt_op rfl rfl fun Q0 q0 => ?_
     simp only [↓bO, go_sem, seval, Sch.cells]
     refine APure.call (SCanon_pure b hcb hvb) ?_
     try simp only [bS, bA]
     refine q0 _ ⟨⟨rfl, rfl, rfl, rfl, trivial⟩, ?_⟩
     clear q0 Q0
     refine NAny_all1 (i := 6) (by kernel_rfl) rfl (fun d h => by cases h) ?_
     refine aAt_op rfl rfl fun Q0 q0 => ?_
     simp only [↓bO, go_sem, seval, Sch.cells]
     refine q0 _ ⟨⟨rfl, rfl, rfl, rfl, trivial⟩, ?_⟩
     clear q0 Q0
     refine NAny_all1 (i := 7) (by kernel_rfl) rfl (fun d h => by cases h) ?_
     refine aAt_op rfl rfl fun Q0 q0 => ?_
     simp only [↓bO, go_sem, seval, Sch.cells]
     refine q0 _ ⟨⟨rfl, rfl, rfl, rfl, trivial⟩, ?_⟩
     clear q0 Q0
     refine NAny_done (by kernel_rfl) ?_
     simp only [thenQ, blockQ, noGotoQ]
     try simp only [maskL, setsL, putsO, putO, mB, List.set_cons_zero, List.set_cons_succ, seval]
     first | refine ⟨trivial, ?_⟩ | skip
     refine Weak.freeze ?_ trivial (by first | omega | (simp only; omega)) (by first | omega | (simp only; omega)) ?_ ?_
     · repeat' first | trivial | exact .inr ⟨_, _, _, rfl, rfl, rfl, rfl⟩ | exact .inl (.refl _) | exact .inl (.any _) | (refine ⟨?_, ?_⟩)
     · repeat' first | exact trivial | exact .any _ | exact .v _ _ | exact .ptr (by omega) | exact Und.data (dataInts _) | exact Und.data Sch.eptr | exact Und.data Sch.agg | exact Und.data (Ty.dataSl _) | exact Und.data (.eptr (Ty.data _)) | exact Und.data (.eptr (.cons (dataInts _) .nil)) | exact .own (by omega) | (refine ⟨?_, ?_⟩)
     · repeat' first | exact trivial | (with_reducible omega) | exact Und.rowI (iD_data _) | exact UndL.data (Ty.data _) | exact UndL.data (Sch.data _) | exact .v _ _ | (refine ⟨?_, ?_⟩)
   ·
    refine aAt_op rfl rfl fun Q0 q0 => ?_
    simp only [↓bO, go_sem, seval, Sch.cells]
    refine q0 _ ⟨⟨rfl, rfl, rfl, rfl, trivial⟩, ?_⟩
    clear q0 Q0
    refine NAny_all2 (i := 1) (j := 4) (by kernel_rfl) rfl rfl (fun d h => by cases h; rfl) (fun d h => by cases h; rfl) ?_ ?_
    ·
     refine aAt_op rfl rfl fun Q0 q0 => ?_
     simp only [↓bO, go_sem, seval, Sch.cells]
     refine APure.call (SCanon_pure a hca hva) ?_
     try simp only [bS, bA]
     refine q0 _ ⟨⟨rfl, rfl, rfl, rfl, trivial⟩, ?_⟩
     clear q0 Q0
     refine NAny_all2 (i := 3) (j := 4) (by kernel_rfl) rfl rfl (fun d h => by cases h; rfl) (fun d h => by cases h; rfl) ?_ ?_
     ·
      refine aAt_op rfl rfl fun Q0 q0 => ?_
      simp only [↓bO, go_sem, seval, Sch.cells]
      refine APure.call (SCanon_pure b hcb hvb) ?_
      try simp only [bS, bA]
      refine q0 _ ⟨⟨rfl, rfl, rfl, rfl, trivial⟩, ?_⟩
      clear q0 Q0
      refine NAny_all1 (i := 4) (by kernel_rfl) rfl (fun d h => by cases h; rfl) ?_
      refine aAt_op rfl rfl fun Q0 q0 => ?_
      simp only [↓bO, go_sem, seval, Sch.cells]
      refine q0 _ ⟨⟨rfl, rfl, rfl, rfl, trivial⟩, ?_⟩
      clear q0 Q0
      refine NAny_all1 (i := 6) (by kernel_rfl) rfl (fun d h => by cases h) ?_
      refine aAt_op rfl rfl fun Q0 q0 => ?_
      simp only [↓bO, go_sem, seval, Sch.cells]
      refine q0 _ ⟨⟨rfl, rfl, rfl, rfl, trivial⟩, ?_⟩
      clear q0 Q0
      refine NAny_all1 (i := 7) (by kernel_rfl) rfl (fun d h => by cases h) ?_
      refine aAt_op rfl rfl fun Q0 q0 => ?_
      simp only [↓bO, go_sem, seval, Sch.cells]
      refine q0 _ ⟨⟨rfl, rfl, rfl, rfl, trivial⟩, ?_⟩
      clear q0 Q0
      refine NAny_done (by kernel_rfl) ?_
      simp only [thenQ, blockQ, noGotoQ]
      try simp only [maskL, setsL, putsO, putO, mB, List.set_cons_zero, List.set_cons_succ, seval]
      first | refine ⟨trivial, ?_⟩ | skip
      refine Weak.freeze ?_ trivial (by first | omega | (simp only; omega)) (by first | omega | (simp only; omega)) ?_ ?_
      · repeat' first | trivial | exact .inr ⟨_, _, _, rfl, rfl, rfl, rfl⟩ | exact .inl (.refl _) | exact .inl (.any _) | (refine ⟨?_, ?_⟩)
      · repeat' first | exact trivial | exact .any _ | exact .v _ _ | exact .ptr (by omega) | exact Und.data (dataInts _) | exact Und.data Sch.eptr | exact Und.data Sch.agg | exact Und.data (Ty.dataSl _) | exact Und.data (.eptr (Ty.data _)) | exact Und.data (.eptr (.cons (dataInts _) .nil)) | exact .own (by omega) | (refine ⟨?_, ?_⟩)
      · repeat' first | exact trivial | (with_reducible omega) | exact Und.rowI (iD_data _) | exact UndL.data (Ty.data _) | exact UndL.data (Sch.data _) | exact .v _ _ | (refine ⟨?_, ?_⟩)
     ·
      refine aAt_op rfl rfl fun Q0 q0 => ?_
      simp only [↓bO, go_sem, seval, Sch.cells]
      refine q0 _ ⟨⟨rfl, rfl, rfl, rfl, trivial⟩, ?_⟩
      clear q0 Q0
      refine NAny_all1 (i := 3) (by kernel_rfl) rfl (fun d h => by cases h; rfl) ?_
      refine aAt_op rfl rfl fun Q0 q0 => ?_
      simp only [↓bO, go_sem, seval, Sch.cells]
      refine APure.call (SCanon_pure b hcb hvb) ?_
      try simp only [bS, bA]
      refine q0 _ ⟨⟨rfl, rfl, rfl, rfl, trivial⟩, ?_⟩
      clear q0 Q0
      refine NAny_all1 (i := 6) (by kernel_rfl) rfl (fun d h => by cases h) ?_
      refine aAt_op rfl rfl fun Q0 q0 => ?_
      simp only [↓bO, go_sem, seval, Sch.cells]
      refine q0 _ ⟨⟨rfl, rfl, rfl, rfl, trivial⟩, ?_⟩
      clear q0 Q0
      refine NAny_all1 (i := 7) (by kernel_rfl) rfl (fun d h => by cases h) ?_
      refine aAt_op rfl rfl fun Q0 q0 => ?_
      simp only [↓bO, go_sem, seval, Sch.cells]
      refine q0 _ ⟨⟨rfl, rfl, rfl, rfl, trivial⟩, ?_⟩
      clear q0 Q0
      refine NAny_done (by kernel_rfl) ?_
      simp only [thenQ, blockQ, noGotoQ]
      try simp only [maskL, setsL, putsO, putO, mB, List.set_cons_zero, List.set_cons_succ, seval]
      first | refine ⟨trivial, ?_⟩ | skip
      refine Weak.freeze ?_ trivial (by first | omega | (simp only; omega)) (by first | omega | (simp only; omega)) ?_ ?_
      · repeat' first | trivial | exact .inr ⟨_, _, _, rfl, rfl, rfl, rfl⟩ | exact .inl (.refl _) | exact .inl (.any _) | (refine ⟨?_, ?_⟩)
      · repeat' first | exact trivial | exact .any _ | exact .v _ _ | exact .ptr (by omega) | exact Und.data (dataInts _) | exact Und.data Sch.eptr | exact Und.data Sch.agg | exact Und.data (Ty.dataSl _) | exact Und.data (.eptr (Ty.data _)) | exact Und.data (.eptr (.cons (dataInts _) .nil)) | exact .own (by omega) | (refine ⟨?_, ?_⟩)
      · repeat' first | exact trivial | (with_reducible omega) | exact Und.rowI (iD_data _) | exact UndL.data (Ty.data _) | exact UndL.data (Sch.data _) | exact .v _ _ | (refine ⟨?_, ?_⟩)
    ·
     refine aAt_op rfl rfl fun Q0 q0 => ?_
     simp only [↓bO, go_sem, seval, Sch.cells]
     refine q0 _ ⟨⟨rfl, rfl, rfl, rfl, trivial⟩, ?_⟩
     clear q0 Q0
     refine NAny_all1 (i := 1) (by kernel_rfl) rfl (fun d h => by cases h; rfl) ?_
     refine aAt_op rfl rfl fun Q0 q0 => ?_
     simp only [↓bO, go_sem, seval, Sch.cells]
     refine APure.call (SCanon_pure a hca hva) ?_
     try simp only [bS, bA]
     refine q0 _ ⟨⟨rfl, rfl, rfl, rfl, trivial⟩, ?_⟩
     clear q0 Q0
     refine NAny_all1 (i := 3) (by kernel_rfl) rfl (fun d h => by cases h; rfl) ?_
     refine aAt_op rfl rfl fun Q0 q0 => ?_
     simp only [↓bO, go_sem, seval, Sch.cells]
     refine APure.call (SCanon_pure b hcb hvb) ?_
     try simp only [bS, bA]
     refine q0 _ ⟨⟨rfl, rfl, rfl, rfl, trivial⟩, ?_⟩
     clear q0 Q0
     refine NAny_all1 (i := 6) (by kernel_rfl) rfl (fun d h => by cases h) ?_
     refine aAt_op rfl rfl fun Q0 q0 => ?_
     simp only [↓bO, go_sem, seval, Sch.cells]
     refine q0 _ ⟨⟨rfl, rfl, rfl, rfl, trivial⟩, ?_⟩
     clear q0 Q0
     refine NAny_all1 (i := 7) (by kernel_rfl) rfl (fun d h => by cases h) ?_
     refine aAt_op rfl rfl fun Q0 q0 => ?_
     simp only [↓bO, go_sem, seval, Sch.cells]
     refine q0 _ ⟨⟨rfl, rfl, rfl, rfl, trivial⟩, ?_⟩
     clear q0 Q0
     refine NAny_done (by kernel_rfl) ?_
     simp only [thenQ, blockQ, noGotoQ]
     try simp only [maskL, setsL, putsO, putO, mB, List.set_cons_zero, List.set_cons_succ, seval]
     first | refine ⟨trivial, ?_⟩ | skip
     refine Weak.freeze ?_ trivial (by first | omega | (simp only; omega)) (by first | omega | (simp only; omega)) ?_ ?_
     · repeat' first | trivial | exact .inr ⟨_, _, _, rfl, rfl, rfl, rfl⟩ | exact .inl (.refl _) | exact .inl (.any _) | (refine ⟨?_, ?_⟩)
     · repeat' first | exact trivial | exact .any _ | exact .v _ _ | exact .ptr (by omega) | exact Und.data (dataInts _) | exact Und.data Sch.eptr | exact Und.data Sch.agg | exact Und.data (Ty.dataSl _) | exact Und.data (.eptr (Ty.data _)) | exact Und.data (.eptr (.cons (dataInts _) .nil)) | exact .own (by omega) | (refine ⟨?_, ?_⟩)
     · repeat' first | exact trivial | (with_reducible omega) | exact Und.rowI (iD_data _) | exact UndL.data (Ty.data _) | exact UndL.data (Sch.data _) | exact .v _ _ | (refine ⟨?_, ?_⟩)
  simp only [maskL, setsL, putsO, putO, mB, List.set_cons_zero, List.set_cons_succ, seval]
  refine AWp_seqK fun Y0 y0 => ?_
  refine AWp_region ?_
  refine aops_chunk 1 fun Q0 q0 => ?_
  simp only [↓bO, go_sem, seval, Sch.cells]
  refine q0 _ ?_
  clear q0 Q0
  simp only [go_sem]
  refine aops_chunk 1 fun Q0 q0 => ?_
  simp only [↓bO, go_sem, seval, Sch.cells]
  refine APure.call (SRight_pure a hca (by omega)) ?_
  try simp only [bS, bA, thenQ, blockQ, noGotoQ]
  refine q0 _ ?_
  clear q0 Q0
  simp only [go_sem]
  refine aops_chunk 1 fun Q0 q0 => ?_
  simp only [↓bO, go_sem, seval, Sch.cells]
  refine q0 _ ?_
  clear q0 Q0
  simp only [go_sem]
  refine aops_case 13 rfl (fun hc13 => ?_) (fun hc13 => ?_)
  ·
   simp only [List.set_cons_zero, List.set_cons_succ]
   have hoa : a.ok = true := by (have h9 := hc13; simpa using h9)
   refine aops_chunk 1 fun Q0 q0 => ?_
   simp only [↓bO, go_sem, seval, Sch.cells]
   refine q0 _ ?_
   clear q0 Q0
   simp only [go_sem]
   refine aops_chunk 1 fun Q0 q0 => ?_
   simp only [↓bO, go_sem, seval, Sch.cells]
   refine APure.call (SRight_pure b hcb (by omega)) ?_
   try simp only [bS, bA, thenQ, blockQ, noGotoQ]
   iterate 2 (refine q0 _ ?_; clear q0 Q0; simp only [go_sem]; refine aops_chunk 1 fun Q0 q0 => ?_; simp only [↓bO, go_sem, seval, Sch.cells])
   refine q0 _ ?_
   clear q0 Q0
   simp only [go_sem]
   refine aops_case 17 rfl (fun hc17 => ?_) (fun hc17 => ?_)
   ·
    simp only [List.set_cons_zero, List.set_cons_succ]
    have hob : b.ok = true := by (have h9 := hc17; simpa using h9)
    iterate 4 (refine aops_chunk 1 fun Q0 q0 => ?_; simp only [↓bO, go_sem, seval, Sch.cells]; refine q0 _ ?_; clear q0 Q0; simp only [go_sem])
    refine aops_chunk 1 fun Q0 q0 => ?_
    simp only [↓bO, go_sem, seval, Sch.cells]
    refine APure.call (EqI_pure (canonS a).vs (canonS b).vs hl) ?_
    try simp only [bS, bA, thenQ, blockQ, noGotoQ]
    iterate 2 (refine q0 _ ?_; clear q0 Q0; simp only [go_sem]; refine aops_chunk 1 fun Q0 q0 => ?_; simp only [↓bO, go_sem, seval, Sch.cells])
    refine q0 _ ?_
    clear q0 Q0
    simp only [go_sem]
    refine aops_case 24 rfl (fun hc24 => ?_) (fun hc24 => ?_)
    ·
     simp only [List.set_cons_zero, List.set_cons_succ]
     have hve : decide ((canonS a).vs = (canonS b).vs) = true := by (first | exact hc24 | simpa using hc24)
     iterate 4 (refine aops_chunk 1 fun Q0 q0 => ?_; simp only [↓bO, go_sem, seval, Sch.cells]; refine q0 _ ?_; clear q0 Q0; simp only [go_sem])
     refine aops_chunk 1 fun Q0 q0 => ?_
     simp only [↓bO, go_sem, seval, Sch.cells]
     refine APure.call (TSame_pure (canonS a).t (canonS b).t) ?_
     try simp only [bS, bA, thenQ, blockQ, noGotoQ]
     refine q0 _ ?_
     clear q0 Q0
     simp only [go_sem]
     refine aops_chunk 1 fun Q0 q0 => ?_
     simp only [↓bO, go_sem, seval, Sch.cells]
     refine q0 _ ?_
     clear q0 Q0
     simp only [go_sem]
     simp only [↓bO, go_sem, seval, Sch.cells]
     refine y0 _ ?_
     try clear y0 Y0
     refine AWp_ret ?_
     try simp only [thenQ, blockQ, noGotoQ, retQ, aRes, tupOf, bS, bA]
     refine Le.of_eq (congrArg (fun b => AV.v (.bool b)) ?_)
     unfold alikeC
     rw [hoa, hob, hve]; rfl
    ·
     simp only [List.set_cons_zero, List.set_cons_succ]
     have hve : decide ((canonS a).vs = (canonS b).vs) = false := by (first | exact hc24 | simpa using hc24)
     iterate 6 (refine aops_chunk 1 fun Q0 q0 => ?_; simp only [↓bO, go_sem, seval, Sch.cells]; refine q0 _ ?_; clear q0 Q0; simp only [go_sem])
     simp only [↓bO, go_sem, seval, Sch.cells]
     refine y0 _ ?_
     try clear y0 Y0
     refine AWp_ret ?_
     try simp only [thenQ, blockQ, noGotoQ, retQ, aRes, tupOf, bS, bA]
     refine Le.of_eq (congrArg (fun b => AV.v (.bool b)) ?_)
     unfold alikeC
     rw [hoa, hob, hve]; rfl
   ·
    simp only [List.set_cons_zero, List.set_cons_succ]
    have hob : b.ok = false := by (have h9 := hc17; simpa using h9)
    iterate 13 (refine aops_chunk 1 fun Q0 q0 => ?_; simp only [↓bO, go_sem, seval, Sch.cells]; refine q0 _ ?_; clear q0 Q0; simp only [go_sem])
    simp only [↓bO, go_sem, seval, Sch.cells]
    refine y0 _ ?_
    try clear y0 Y0
    refine AWp_ret ?_
    try simp only [thenQ, blockQ, noGotoQ, retQ, aRes, tupOf, bS, bA]
    refine Le.of_eq (congrArg (fun b => AV.v (.bool b)) ?_)
    unfold alikeC
    rw [hoa, hob]; rfl
  ·
   simp only [List.set_cons_zero, List.set_cons_succ]
   have hoa : a.ok = false := by (have h9 := hc13; simpa using h9)
   iterate 17 (refine aops_chunk 1 fun Q0 q0 => ?_; simp only [↓bO, go_sem, seval, Sch.cells]; refine q0 _ ?_; clear q0 Q0; simp only [go_sem])
   simp only [↓bO, go_sem, seval, Sch.cells]
   refine y0 _ ?_
   try clear y0 Y0
   refine AWp_ret ?_
   try simp only [thenQ, blockQ, noGotoQ, retQ, aRes, tupOf, bS, bA]
   refine Le.of_eq (congrArg (fun b => AV.v (.bool b)) ?_)
   unfold alikeC
   rw [hoa]; rfl
theorem canonS_len (s : Sch) : (canonS s).vs.length ≤ s.vs.length := by
  unfold canonS
  split
  · rw [canonL_len]; exact Nat.le_refl _
  · exact Nat.zero_le _
theorem SchemeRules_pure (a b : Sch) (t : Ty) (hA : APure Tryd.prog 8 [] (.v (.bool true))) : APure Tryd.prog 5 [.agg a.cells, .agg b.cells, .agg t.cells] (.v (.bool true)) := by
  refine APure.mkL (.cons Sch.agg (.cons Sch.agg (.cons (Ty.dataAgg _) .nil))) (.v _) ?_
  refine ACalls_intro Tryd.func5 (by kernel_rfl) rfl (by rw [Tryd.ntmps5]; simp) (fun hm => ?_)
  simp only [Tryd.ntmps5, Tryd.results5, List.length_cons, List.length_nil, Nat.reduceAdd, Nat.reduceSub, List.replicate_succ, List.replicate_zero, List.cons_append, List.nil_append]
  refine AWp_joinZ (mB 51 56) ([(3, .eptr a.cells), (4, .eptr b.cells), (5, .eptr t.cells)]) [] 0 (True) ?_ (fun hC => ?_)
  ·
   refine AWp_region ?_
   iterate 3 (refine aops_chunk 1 fun Q0 q0 => ?_; simp only [↓bO, go_sem, seval, Sch.cells]; refine q0 _ ?_; clear q0 Q0; simp only [go_sem])
   simp only [↓bO, go_sem, seval, Sch.cells]
   try simp only [maskL, setsL, putsO, putO, mB, List.set_cons_zero, List.set_cons_succ, seval]
   first | refine ⟨trivial, ?_⟩ | skip
   refine Weak.freeze ?_ trivial (by first | omega | (simp only; omega)) (by first | omega | (simp only; omega)) ?_ ?_
   · repeat' first | trivial | exact .inr ⟨_, _, _, rfl, rfl, rfl, rfl⟩ | exact .inl (.refl _) | exact .inl (.any _) | (refine ⟨?_, ?_⟩)
   · repeat' first | exact trivial | exact .any _ | exact .v _ _ | exact .ptr (by omega) | exact Und.data (dataInts _) | exact Und.data Sch.eptr | exact Und.data Sch.agg | exact Und.data (Ty.dataSl _) | exact Und.data (.eptr (Ty.data _)) | exact Und.data (.eptr (.cons (dataInts _) .nil)) | exact .own (by omega) | (refine ⟨?_, ?_⟩)
   · repeat' first | exact trivial | (with_reducible omega) | exact Und.rowI (iD_data _) | exact UndL.data (Ty.data _) | exact UndL.data (Sch.data _) | exact .v _ _ | (refine ⟨?_, ?_⟩)
  simp only [maskL, setsL, putsO, putO, mB, List.set_cons_zero, List.set_cons_succ, seval]
  refine AWp_seqK fun Y0 y0 => ?_
  refine AWp_seqK fun Y1 y1 => ?_
  refine AWp_region ?_
  refine aops_chunk 1 fun Q0 q0 => ?_
  simp only [↓bO, go_sem, seval, Sch.cells]
  refine q0 _ ?_
  clear q0 Q0
  simp only [go_sem]
  refine aops_chunk 1 fun Q0 q0 => ?_
  simp only [↓bO, go_sem, seval, Sch.cells]
  refine APure.call (Great16_pure a) ?_
  try simp only [bS, bA, thenQ, blockQ, noGotoQ]
  refine q0 _ ?_
  clear q0 Q0
  simp only [go_sem]
  refine aops_chunk 1 fun Q0 q0 => ?_
  simp only [↓bO, go_sem, seval, Sch.cells]
  refine q0 _ ?_
  clear q0 Q0
  simp only [go_sem]
  refine aops_case 11 rfl (fun hc11 => ?_) (fun hc11 => ?_)
  ·
   simp only [List.set_cons_zero, List.set_cons_succ]
   iterate 6 (refine aops_chunk 1 fun Q0 q0 => ?_; simp only [↓bO, go_sem, seval, Sch.cells]; refine q0 _ ?_; clear q0 Q0; simp only [go_sem])
   simp only [↓bO, go_sem, seval, Sch.cells]
   refine y1 _ ?_
   try clear y1 Y1
   refine AWp_cond (b := true) (by first | exact rfl | exact congrArg (fun b => AV.v (.bool b)) hb18) (fun _ => ?_) (fun h => (by cases h))
   refine AWp_seqK fun Y1 y1 => ?_
   refine AWp_region ?_
   refine aops_chunk 1 fun Q0 q0 => ?_
   simp only [↓bO, go_sem, seval, Sch.cells]
   refine APure.call (hA) ?_
   try simp only [bS, bA, thenQ, blockQ, noGotoQ]
   refine q0 _ ?_
   clear q0 Q0
   simp only [go_sem]
   simp only [↓bO, go_sem, seval, Sch.cells]
   refine y1 _ ?_
   try clear y1 Y1
   refine AWp_ret ?_
   try simp only [thenQ, blockQ, noGotoQ, retQ, aRes, tupOf, bS, bA]
   exact Le.refl _
  ·
   simp only [List.set_cons_zero, List.set_cons_succ]
   have hga := Sch.great_spec (by first | exact hc11 | simpa using hc11)
   refine aops_chunk 1 fun Q0 q0 => ?_
   simp only [↓bO, go_sem, seval, Sch.cells]
   refine q0 _ ?_
   clear q0 Q0
   simp only [go_sem]
   refine aops_chunk 1 fun Q0 q0 => ?_
   simp only [↓bO, go_sem, seval, Sch.cells]
   refine APure.call (Great16_pure b) ?_
   try simp only [bS, bA, thenQ, blockQ, noGotoQ]
   iterate 2 (refine q0 _ ?_; clear q0 Q0; simp only [go_sem]; refine aops_chunk 1 fun Q0 q0 => ?_; simp only [↓bO, go_sem, seval, Sch.cells])
   refine q0 _ ?_
   clear q0 Q0
   simp only [go_sem]
   refine aops_case 15 rfl (fun hc15 => ?_) (fun hc15 => ?_)
   ·
    simp only [List.set_cons_zero, List.set_cons_succ]
    iterate 2 (refine aops_chunk 1 fun Q0 q0 => ?_; simp only [↓bO, go_sem, seval, Sch.cells]; refine q0 _ ?_; clear q0 Q0; simp only [go_sem])
    simp only [↓bO, go_sem, seval, Sch.cells]
    refine y1 _ ?_
    try clear y1 Y1
    refine AWp_cond (b := true) (by first | exact rfl | exact congrArg (fun b => AV.v (.bool b)) hb18) (fun _ => ?_) (fun h => (by cases h))
    refine AWp_seqK fun Y1 y1 => ?_
    refine AWp_region ?_
    refine aops_chunk 1 fun Q0 q0 => ?_
    simp only [↓bO, go_sem, seval, Sch.cells]
    refine APure.call (hA) ?_
    try simp only [bS, bA, thenQ, blockQ, noGotoQ]
    refine q0 _ ?_
    clear q0 Q0
    simp only [go_sem]
    simp only [↓bO, go_sem, seval, Sch.cells]
    refine y1 _ ?_
    try clear y1 Y1
    refine AWp_ret ?_
    try simp only [thenQ, blockQ, noGotoQ, retQ, aRes, tupOf, bS, bA]
    exact Le.refl _
   ·
    simp only [List.set_cons_zero, List.set_cons_succ]
    have hgb := Sch.great_spec (by first | exact hc15 | simpa using hc15)
    refine aops_chunk 1 fun Q0 q0 => ?_
    simp only [↓bO, go_sem, seval, Sch.cells]
    refine q0 _ ?_
    clear q0 Q0
    simp only [go_sem]
    refine aops_chunk 1 fun Q0 q0 => ?_
    simp only [↓bO, go_sem, seval, Sch.cells]
    refine APure.call (Great3_pure t) ?_
    try simp only [bS, bA, thenQ, blockQ, noGotoQ]
    refine q0 _ ?_
    clear q0 Q0
    simp only [go_sem]
    simp only [↓bO, go_sem, seval, Sch.cells]
    refine y1 _ ?_
    try clear y1 Y1
    refine AWp_cond rfl (fun hb18 => ?_) (fun hb18 => ?_)
    ·
     refine AWp_seqK fun Y1 y1 => ?_
     refine AWp_region ?_
     refine aops_chunk 1 fun Q0 q0 => ?_
     simp only [↓bO, go_sem, seval, Sch.cells]
     refine APure.call (hA) ?_
     try simp only [bS, bA, thenQ, blockQ, noGotoQ]
     refine q0 _ ?_
     clear q0 Q0
     simp only [go_sem]
     simp only [↓bO, go_sem, seval, Sch.cells]
     refine y1 _ ?_
     try clear y1 Y1
     refine AWp_ret ?_
     try simp only [thenQ, blockQ, noGotoQ, retQ, aRes, tupOf, bS, bA]
     exact Le.refl _
    ·
     have hgt := Ty.great_cnt (by first | exact hb18 | simpa using hb18)
     refine AWp_skip ?_
     try simp only [thenQ, blockQ, noGotoQ]
     refine y0 _ ?_
     try clear y0 Y0
     refine AWp_joinZ (mB 51 416) ([(7, .eptr a.cells), (8, .eptr b.cells)]) [] 0 (True) ?_ (fun hC => ?_)
     ·
      refine NAny_start 8 [3, 4] rfl mixed ?_
      dsimp only
      refine NAny_takeK 0 rfl (by kernel_rfl) (by kernel_rfl) (by kernel_rfl) (fun _ _ h => h) (by kernel_rfl) (fun d h => by cases h; rfl) (by kernel_rfl) (G' := [20, 3, 4]) (by kernel_rfl) fun Q0 q0 => ?_
      simp only [↓bO, go_sem, seval, nHead, isE, isSE, isV, Sch.cells]
      refine q0 _ ?_
      clear q0 Q0
      refine NAny_takeK 2 rfl (by kernel_rfl) (by kernel_rfl) (by kernel_rfl) (fun _ _ h => h) (by kernel_rfl) (fun d h => by cases h; rfl) (by kernel_rfl) (G' := [22, 20, 3, 4]) (by kernel_rfl) fun Q0 q0 => ?_
      simp only [↓bO, go_sem, seval, nHead, isE, isSE, isV, Sch.cells]
      refine q0 _ ?_
      clear q0 Q0
      refine NAny_all3 (i := 1) (j := 4) (k := 5) (by kernel_rfl) rfl rfl rfl (fun d h => by cases h; rfl) (fun d h => by cases h; rfl) (fun d h => by cases h; rfl) ?_ ?_ ?_
      ·
       refine aAt_op rfl rfl fun Q0 q0 => ?_
       simp only [↓bO, go_sem, seval, Sch.cells]
       refine APure.call (Own16_pure a) ?_
       try simp only [bS, bA]
       refine q0 _ ⟨⟨rfl, rfl, rfl, rfl, trivial⟩, ?_⟩
       clear q0 Q0
       refine NAny_all3 (i := 3) (j := 4) (k := 5) (by kernel_rfl) rfl rfl rfl (fun d h => by cases h; rfl) (fun d h => by cases h; rfl) (fun d h => by cases h; rfl) ?_ ?_ ?_
       ·
        refine aAt_op rfl rfl fun Q0 q0 => ?_
        simp only [↓bO, go_sem, seval, Sch.cells]
        refine APure.call (Own16_pure b) ?_
        try simp only [bS, bA]
        refine q0 _ ⟨⟨rfl, rfl, rfl, rfl, trivial⟩, ?_⟩
        clear q0 Q0
        refine NAny_all2 (i := 4) (j := 5) (by kernel_rfl) rfl rfl (fun d h => by cases h; rfl) (fun d h => by cases h; rfl) ?_ ?_
        ·
         refine aAt_op rfl rfl fun Q0 q0 => ?_
         simp only [↓bO, go_sem, seval, Sch.cells]
         refine q0 _ ⟨⟨rfl, rfl, rfl, rfl, trivial⟩, ?_⟩
         clear q0 Q0
         refine NAny_all1 (i := 5) (by kernel_rfl) rfl (fun d h => by cases h; rfl) ?_
         refine aAt_op rfl rfl fun Q0 q0 => ?_
         simp only [↓bO, go_sem, seval, Sch.cells]
         refine q0 _ ⟨⟨rfl, rfl, rfl, rfl, trivial⟩, ?_⟩
         clear q0 Q0
         refine NAny_all1 (i := 6) (by kernel_rfl) rfl (fun d h => by cases h) ?_
         refine aAt_op rfl rfl fun Q0 q0 => ?_
         simp only [↓bO, go_sem, seval, Sch.cells]
         refine q0 _ ⟨⟨rfl, rfl, rfl, rfl, trivial⟩, ?_⟩
         clear q0 Q0
         refine NAny_all1 (i := 7) (by kernel_rfl) rfl (fun d h => by cases h) ?_
         refine aAt_op rfl rfl fun Q0 q0 => ?_
         simp only [↓bO, go_sem, seval, Sch.cells]
         refine q0 _ ⟨⟨rfl, rfl, rfl, rfl, trivial⟩, ?_⟩
         clear q0 Q0
         refine NAny_done (by kernel_rfl) ?_
         simp only [thenQ, blockQ, noGotoQ]
         try simp only [maskL, setsL, putsO, putO, mB, List.set_cons_zero, List.set_cons_succ, seval]
         first | refine ⟨trivial, ?_⟩ | skip
         refine Weak.freeze ?_ trivial (by first | omega | (simp only; omega)) (by first | omega | (simp only; omega)) ?_ ?_
         · repeat' first | trivial | exact .inr ⟨_, _, _, rfl, rfl, rfl, rfl⟩ | exact .inl (.refl _) | exact .inl (.any _) | (refine ⟨?_, ?_⟩)
         · repeat' first | exact trivial | exact .any _ | exact .v _ _ | exact .ptr (by omega) | exact Und.data (dataInts _) | exact Und.data Sch.eptr | exact Und.data Sch.agg | exact Und.data (Ty.dataSl _) | exact Und.data (.eptr (Ty.data _)) | exact Und.data (.eptr (.cons (dataInts _) .nil)) | exact .own (by omega) | (refine ⟨?_, ?_⟩)
         · repeat' first | exact trivial | (with_reducible omega) | exact Und.rowI (iD_data _) | exact UndL.data (Ty.data _) | exact UndL.data (Sch.data _) | exact .v _ _ | (refine ⟨?_, ?_⟩)
        ·
         refine aAt_op rfl rfl fun Q0 q0 => ?_
         simp only [↓bO, go_sem, seval, Sch.cells]
         refine q0 _ ⟨⟨rfl, rfl, rfl, rfl, trivial⟩, ?_⟩
         clear q0 Q0
         refine NAny_all1 (i := 4) (by kernel_rfl) rfl (fun d h => by cases h; rfl) ?_
         refine aAt_op rfl rfl fun Q0 q0 => ?_
         simp only [↓bO, go_sem, seval, Sch.cells]
         refine q0 _ ⟨⟨rfl, rfl, rfl, rfl, trivial⟩, ?_⟩
         clear q0 Q0
         refine NAny_all1 (i := 6) (by kernel_rfl) rfl (fun d h => by cases h) ?_
         refine aAt_op rfl rfl fun Q0 q0 => ?_
         simp only [↓bO, go_sem, seval, Sch.cells]
         refine q0 _ ⟨⟨rfl, rfl, rfl, rfl, trivial⟩, ?_⟩
         clear q0 Q0
         refine NAny_all1 (i := 7) (by kernel_rfl) rfl (fun d h => by cases h) ?_
         refine aAt_op rfl rfl fun Q0 q0 => ?_
         simp only [↓bO, go_sem, seval, Sch.cells]
         refine q0 _ ⟨⟨rfl, rfl, rfl, rfl, trivial⟩, ?_⟩
         clear q0 Q0
         refine NAny_done (by kernel_rfl) ?_
         simp only [thenQ, blockQ, noGotoQ]
         try simp only [maskL, setsL, putsO, putO, mB, List.set_cons_zero, List.set_cons_succ, seval]
         first | refine ⟨trivial, ?_⟩ | skip
         refine Weak.freeze ?_ trivial (by first | omega | (simp only; omega)) (by first | omega | (simp only; omega)) ?_ ?_
         · repeat' first | trivial | exact .inr ⟨_, _, _, rfl, rfl, rfl, rfl⟩ | exact .inl (.refl _) | exact .inl (.any _) | (refine ⟨?_, ?_⟩)
         · repeat' first | exact trivial | exact .any _ | exact .v _ _ | exact .ptr (by omega) | exact Und.data (dataInts _) | exact Und.data Sch.eptr | exact Und.data Sch.agg | exact Und.data (Ty.dataSl _) | exact Und.data (.eptr (Ty.data _)) | exact Und.data (.eptr (.cons (dataInts _) .nil)) | exact .own (by omega) | (refine ⟨?_, ?_⟩)
         · repeat' first | exact trivial | (with_reducible omega) | exact Und.rowI (iD_data _) | exact UndL.data (Ty.data _) | exact UndL.data (Sch.data _) | exact .v _ _ | (refine ⟨?_, ?_⟩)
       ·
        refine aAt_op rfl rfl fun Q0 q0 => ?_
        simp only [↓bO, go_sem, seval, Sch.cells]
        refine q0 _ ⟨⟨rfl, rfl, rfl, rfl, trivial⟩, ?_⟩
        clear q0 Q0
        refine NAny_all2 (i := 3) (j := 5) (by kernel_rfl) rfl rfl (fun d h => by cases h; rfl) (fun d h => by cases h; rfl) ?_ ?_
        ·
         refine aAt_op rfl rfl fun Q0 q0 => ?_
         simp only [↓bO, go_sem, seval, Sch.cells]
         refine APure.call (Own16_pure b) ?_
         try simp only [bS, bA]
         refine q0 _ ⟨⟨rfl, rfl, rfl, rfl, trivial⟩, ?_⟩
         clear q0 Q0
         refine NAny_all1 (i := 5) (by kernel_rfl) rfl (fun d h => by cases h; rfl) ?_
         refine aAt_op rfl rfl fun Q0 q0 => ?_
         simp only [↓bO, go_sem, seval, Sch.cells]
         refine q0 _ ⟨⟨rfl, rfl, rfl, rfl, trivial⟩, ?_⟩
         clear q0 Q0
         refine NAny_all1 (i := 6) (by kernel_rfl) rfl (fun d h => by cases h) ?_
         refine aAt_op rfl rfl fun Q0 q0 => ?_
         simp only [↓bO, go_sem, seval, Sch.cells]
         refine q0 _ ⟨⟨rfl, rfl, rfl, rfl, trivial⟩, ?_⟩
         clear q0 Q0
         refine NAny_all1 (i := 7) (by kernel_rfl) rfl (fun d h => by cases h) ?_
         refine aAt_op rfl rfl fun Q0 q0 => ?_
         simp only [↓bO, go_sem, seval, Sch.cells]
         refine q0 _ ⟨⟨rfl, rfl, rfl, rfl, trivial⟩, ?_⟩
         clear q0 Q0
         refine NAny_done (by kernel_rfl) ?_
         simp only [thenQ, blockQ, noGotoQ]
         try simp only [maskL, setsL, putsO, putO, mB, List.set_cons_zero, List.set_cons_succ, seval]
         first | refine ⟨trivial, ?_⟩ | skip
         refine Weak.freeze ?_ trivial (by first | omega | (simp only; omega)) (by first | omega | (simp only; omega)) ?_ ?_
         · repeat' first | trivial | exact .inr ⟨_, _, _, rfl, rfl, rfl, rfl⟩ | exact .inl (.refl _) | exact .inl (.any _) | (refine ⟨?_, ?_⟩)
         · repeat' first | exact trivial | exact .any _ | exact .v _ _ | exact .ptr (by omega) | exact Und.data (dataInts _) | exact Und.data Sch.eptr | exact Und.data Sch.agg | exact Und.data (Ty.dataSl _) | exact Und.data (.eptr (Ty.data _)) | exact Und.data (.eptr (.cons (dataInts _) .nil)) | exact .own (by omega) | (refine ⟨?_, ?_⟩)
         · repeat' first | exact trivial | (with_reducible omega) | exact Und.rowI (iD_data _) | exact UndL.data (Ty.data _) | exact UndL.data (Sch.data _) | exact .v _ _ | (refine ⟨?_, ?_⟩)
        ·
         refine aAt_op rfl rfl fun Q0 q0 => ?_
         simp only [↓bO, go_sem, seval, Sch.cells]
         refine q0 _ ⟨⟨rfl, rfl, rfl, rfl, trivial⟩, ?_⟩
         clear q0 Q0
         refine NAny_all1 (i := 3) (by kernel_rfl) rfl (fun d h => by cases h; rfl) ?_
         refine aAt_op rfl rfl fun Q0 q0 => ?_
         simp only [↓bO, go_sem, seval, Sch.cells]
         refine APure.call (Own16_pure b) ?_
         try simp only [bS, bA]
         refine q0 _ ⟨⟨rfl, rfl, rfl, rfl, trivial⟩, ?_⟩
         clear q0 Q0
         refine NAny_all1 (i := 6) (by kernel_rfl) rfl (fun d h => by cases h) ?_
         refine aAt_op rfl rfl fun Q0 q0 => ?_
         simp only [↓bO, go_sem, seval, Sch.cells]
         refine q0 _ ⟨⟨rfl, rfl, rfl, rfl, trivial⟩, ?_⟩
         clear q0 Q0
         refine NAny_all1 (i := 7) (by kernel_rfl) rfl (fun d h => by cases h) ?_
         refine aAt_op rfl rfl fun Q0 q0 => ?_
         simp only [↓bO, go_sem, seval, Sch.cells]
         refine q0 _ ⟨⟨rfl, rfl, rfl, rfl, trivial⟩, ?_⟩
         clear q0 Q0
         refine NAny_done (by kernel_rfl) ?_
         simp only [thenQ, blockQ, noGotoQ]
         try simp only [maskL, setsL, putsO, putO, mB, List.set_cons_zero, List.set_cons_succ, seval]
         first | refine ⟨trivial, ?_⟩ | skip
         refine Weak.freeze ?_ trivial (by first | omega | (simp only; omega)) (by first | omega | (simp only; omega)) ?_ ?_
         · repeat' first | trivial | exact .inr ⟨_, _, _, rfl, rfl, rfl, rfl⟩ | exact .inl (.refl _) | exact .inl (.any _) | (refine ⟨?_, ?_⟩)
         · repeat' first | exact trivial | exact .any _ | exact .v _ _ | exact .ptr (by omega) | exact Und.data (dataInts _) | exact Und.data Sch.eptr | exact Und.data Sch.agg | exact Und.data (Ty.dataSl _) | exact Und.data (.eptr (Ty.data _)) | exact Und.data (.eptr (.cons (dataInts _) .nil)) | exact .own (by omega) | (refine ⟨?_, ?_⟩)
         · repeat' first | exact trivial | (with_reducible omega) | exact Und.rowI (iD_data _) | exact UndL.data (Ty.data _) | exact UndL.data (Sch.data _) | exact .v _ _ | (refine ⟨?_, ?_⟩)
       ·
        refine aAt_op rfl rfl fun Q0 q0 => ?_
        simp only [↓bO, go_sem, seval, Sch.cells]
        refine q0 _ ⟨⟨rfl, rfl, rfl, rfl, trivial⟩, ?_⟩
        clear q0 Q0
        refine NAny_all2 (i := 3) (j := 4) (by kernel_rfl) rfl rfl (fun d h => by cases h; rfl) (fun d h => by cases h; rfl) ?_ ?_
        ·
         refine aAt_op rfl rfl fun Q0 q0 => ?_
         simp only [↓bO, go_sem, seval, Sch.cells]
         refine APure.call (Own16_pure b) ?_
         try simp only [bS, bA]
         refine q0 _ ⟨⟨rfl, rfl, rfl, rfl, trivial⟩, ?_⟩
         clear q0 Q0
         refine NAny_all1 (i := 4) (by kernel_rfl) rfl (fun d h => by cases h; rfl) ?_
         refine aAt_op rfl rfl fun Q0 q0 => ?_
         simp only [↓bO, go_sem, seval, Sch.cells]
         refine q0 _ ⟨⟨rfl, rfl, rfl, rfl, trivial⟩, ?_⟩
         clear q0 Q0
         refine NAny_all1 (i := 6) (by kernel_rfl) rfl (fun d h => by cases h) ?_
         refine aAt_op rfl rfl fun Q0 q0 => ?_
         simp only [↓bO, go_sem, seval, Sch.cells]
         refine q0 _ ⟨⟨rfl, rfl, rfl, rfl, trivial⟩, ?_⟩
         clear q0 Q0
         refine NAny_all1 (i := 7) (by kernel_rfl) rfl (fun d h => by cases h) ?_
         refine aAt_op rfl rfl fun Q0 q0 => ?_
         simp only [↓bO, go_sem, seval, Sch.cells]
         refine q0 _ ⟨⟨rfl, rfl, rfl, rfl, trivial⟩, ?_⟩
         clear q0 Q0
         refine NAny_done (by kernel_rfl) ?_
         simp only [thenQ, blockQ, noGotoQ]
         try simp only [maskL, setsL, putsO, putO, mB, List.set_cons_zero, List.set_cons_succ, seval]
         first | refine ⟨trivial, ?_⟩ | skip
         refine Weak.freeze ?_ trivial (by first | omega | (simp only; omega)) (by first | omega | (simp only; omega)) ?_ ?_
         · repeat' first | trivial | exact .inr ⟨_, _, _, rfl, rfl, rfl, rfl⟩ | exact .inl (.refl _) | exact .inl (.any _) | (refine ⟨?_, ?_⟩)
         · repeat' first | exact trivial | exact .any _ | exact .v _ _ | exact .ptr (by omega) | exact Und.data (dataInts _) | exact Und.data Sch.eptr | exact Und.data Sch.agg | exact Und.data (Ty.dataSl _) | exact Und.data (.eptr (Ty.data _)) | exact Und.data (.eptr (.cons (dataInts _) .nil)) | exact .own (by omega) | (refine ⟨?_, ?_⟩)
         · repeat' first | exact trivial | (with_reducible omega) | exact Und.rowI (iD_data _) | exact UndL.data (Ty.data _) | exact UndL.data (Sch.data _) | exact .v _ _ | (refine ⟨?_, ?_⟩)
        ·
         refine aAt_op rfl rfl fun Q0 q0 => ?_
         simp only [↓bO, go_sem, seval, Sch.cells]
         refine q0 _ ⟨⟨rfl, rfl, rfl, rfl, trivial⟩, ?_⟩
         clear q0 Q0
         refine NAny_all1 (i := 3) (by kernel_rfl) rfl (fun d h => by cases h; rfl) ?_
         refine aAt_op rfl rfl fun Q0 q0 => ?_
         simp only [↓bO, go_sem, seval, Sch.cells]
         refine APure.call (Own16_pure b) ?_
         try simp only [bS, bA]
         refine q0 _ ⟨⟨rfl, rfl, rfl, rfl, trivial⟩, ?_⟩
         clear q0 Q0
         refine NAny_all1 (i := 6) (by kernel_rfl) rfl (fun d h => by cases h) ?_
         refine aAt_op rfl rfl fun Q0 q0 => ?_
         simp only [↓bO, go_sem, seval, Sch.cells]
         refine q0 _ ⟨⟨rfl, rfl, rfl, rfl, trivial⟩, ?_⟩
         clear q0 Q0
         refine NAny_all1 (i := 7) (by kernel_rfl) rfl (fun d h => by cases h) ?_
         refine aAt_op rfl rfl fun Q0 q0 => ?_
         simp only [↓bO, go_sem, seval, Sch.cells]
         refine q0 _ ⟨⟨rfl, rfl, rfl, rfl, trivial⟩, ?_⟩
         clear q0 Q0
         refine NAny_done (by kernel_rfl) ?_
         simp only [thenQ, blockQ, noGotoQ]
         try simp only [maskL, setsL, putsO, putO, mB, List.set_cons_zero, List.set_cons_succ, seval]
         first | refine ⟨trivial, ?_⟩ | skip
         refine Weak.freeze ?_ trivial (by first | omega | (simp only; omega)) (by first | omega | (simp only; omega)) ?_ ?_
         · repeat' first | trivial | exact .inr ⟨_, _, _, rfl, rfl, rfl, rfl⟩ | exact .inl (.refl _) | exact .inl (.any _) | (refine ⟨?_, ?_⟩)
         · repeat' first | exact trivial | exact .any _ | exact .v _ _ | exact .ptr (by omega) | exact Und.data (dataInts _) | exact Und.data Sch.eptr | exact Und.data Sch.agg | exact Und.data (Ty.dataSl _) | exact Und.data (.eptr (Ty.data _)) | exact Und.data (.eptr (.cons (dataInts _) .nil)) | exact .own (by omega) | (refine ⟨?_, ?_⟩)
         · repeat' first | exact trivial | (with_reducible omega) | exact Und.rowI (iD_data _) | exact UndL.data (Ty.data _) | exact UndL.data (Sch.data _) | exact .v _ _ | (refine ⟨?_, ?_⟩)
      ·
       refine aAt_op rfl rfl fun Q0 q0 => ?_
       simp only [↓bO, go_sem, seval, Sch.cells]
       refine q0 _ ⟨⟨rfl, rfl, rfl, rfl, trivial⟩, ?_⟩
       clear q0 Q0
       refine NAny_all2 (i := 1) (j := 5) (by kernel_rfl) rfl rfl (fun d h => by cases h; rfl) (fun d h => by cases h; rfl) ?_ ?_
       ·
        refine aAt_op rfl rfl fun Q0 q0 => ?_
        simp only [↓bO, go_sem, seval, Sch.cells]
        refine APure.call (Own16_pure a) ?_
        try simp only [bS, bA]
        refine q0 _ ⟨⟨rfl, rfl, rfl, rfl, trivial⟩, ?_⟩
        clear q0 Q0
        refine NAny_all2 (i := 3) (j := 5) (by kernel_rfl) rfl rfl (fun d h => by cases h; rfl) (fun d h => by cases h; rfl) ?_ ?_
        ·
         refine aAt_op rfl rfl fun Q0 q0 => ?_
         simp only [↓bO, go_sem, seval, Sch.cells]
         refine APure.call (Own16_pure b) ?_
         try simp only [bS, bA]
         refine q0 _ ⟨⟨rfl, rfl, rfl, rfl, trivial⟩, ?_⟩
         clear q0 Q0
         refine NAny_all1 (i := 5) (by kernel_rfl) rfl (fun d h => by cases h; rfl) ?_
         refine aAt_op rfl rfl fun Q0 q0 => ?_
         simp only [↓bO, go_sem, seval, Sch.cells]
         refine q0 _ ⟨⟨rfl, rfl, rfl, rfl, trivial⟩, ?_⟩
         clear q0 Q0
         refine NAny_all1 (i := 6) (by kernel_rfl) rfl (fun d h => by cases h) ?_
         refine aAt_op rfl rfl fun Q0 q0 => ?_
         simp only [↓bO, go_sem, seval, Sch.cells]
         refine q0 _ ⟨⟨rfl, rfl, rfl, rfl, trivial⟩, ?_⟩
         clear q0 Q0
         refine NAny_all1 (i := 7) (by kernel_rfl) rfl (fun d h => by cases h) ?_
         refine aAt_op rfl rfl fun Q0 q0 => ?_
         simp only [↓bO, go_sem, seval, Sch.cells]
         refine q0 _ ⟨⟨rfl, rfl, rfl, rfl, trivial⟩, ?_⟩
         clear q0 Q0
         refine NAny_done (by kernel_rfl) ?_
         simp only [thenQ, blockQ, noGotoQ]
         try simp only [maskL, setsL, putsO, putO, mB, List.set_cons_zero, List.set_cons_succ, seval]
         first | refine ⟨trivial, ?_⟩ | skip
         refine Weak.freeze ?_ trivial (by first | omega | (simp only; omega)) (by first | omega | (simp only; omega)) ?_ ?_
         · repeat' first | trivial | exact .inr ⟨_, _, _, rfl, rfl, rfl, rfl⟩ | exact .inl (.refl _) | exact .inl (.any _) | (refine ⟨?_, ?_⟩)
         · repeat' first | exact trivial | exact .any _ | exact .v _ _ | exact .ptr (by omega) | exact Und.data (dataInts _) | exact Und.data Sch.eptr | exact Und.data Sch.agg | exact Und.data (Ty.dataSl _) | exact Und.data (.eptr (Ty.data _)) | exact Und.data (.eptr (.cons (dataInts _) .nil)) | exact .own (by omega) | (refine ⟨?_, ?_⟩)
         · repeat' first | exact trivial | (with_reducible omega) | exact Und.rowI (iD_data _) | exact UndL.data (Ty.data _) | exact UndL.data (Sch.data _) | exact .v _ _ | (refine ⟨?_, ?_⟩)
        ·
         refine aAt_op rfl rfl fun Q0 q0 => ?_
         simp only [↓bO, go_sem, seval, Sch.cells]
         refine q0 _ ⟨⟨rfl, rfl, rfl, rfl, trivial⟩, ?_⟩
         clear q0 Q0
         refine NAny_all1 (i := 3) (by kernel_rfl) rfl (fun d h => by cases h; rfl) ?_
         refine aAt_op rfl rfl fun Q0 q0 => ?_
         simp only [↓bO, go_sem, seval, Sch.cells]
         refine APure.call (Own16_pure b) ?_
         try simp only [bS, bA]
         refine q0 _ ⟨⟨rfl, rfl, rfl, rfl, trivial⟩, ?_⟩
         clear q0 Q0
         refine NAny_all1 (i := 6) (by kernel_rfl) rfl (fun d h => by cases h) ?_
         refine aAt_op rfl rfl fun Q0 q0 => ?_
         simp only [↓bO, go_sem, seval, Sch.cells]
         refine q0 _ ⟨⟨rfl, rfl, rfl, rfl, trivial⟩, ?_⟩
         clear q0 Q0
         refine NAny_all1 (i := 7) (by kernel_rfl) rfl (fun d h => by cases h) ?_
         refine aAt_op rfl rfl fun Q0 q0 => ?_
         simp only [↓bO, go_sem, seval, Sch.cells]
         refine q0 _ ⟨⟨rfl, rfl, rfl, rfl, trivial⟩, ?_⟩
         clear q0 Q0
         refine NAny_done (by kernel_rfl) ?_
         simp only [thenQ, blockQ, noGotoQ]
         try simp only [maskL, setsL, putsO, putO, mB, List.set_cons_zero, List.set_cons_succ, seval]
         first | refine ⟨trivial, ?_⟩ | skip
         refine Weak.freeze ?_ trivial (by first | omega | (simp only; omega)) (by first | omega | (simp only; omega)) ?_ ?_
         · repeat' first | trivial | exact .inr ⟨_, _, _, rfl, rfl, rfl, rfl⟩ | exact .inl (.refl _) | exact .inl (.any _) | (refine ⟨?_, ?_⟩)
         · repeat' first | exact trivial | exact .any _ | exact .v _ _ | exact .ptr (by omega) | exact Und.data (dataInts _) | exact Und.data Sch.eptr | exact Und.data Sch.agg | exact Und.data (Ty.dataSl _) | exact Und.data (.eptr (Ty.data _)) | exact Und.data (.eptr (.cons (dataInts _) .nil)) | exact .own (by omega) | (refine ⟨?_, ?_⟩)
         · repeat' first | exact trivial | (with_reducible omega) | exact Und.rowI (iD_data _) | exact UndL.data (Ty.data _) | exact UndL.data (Sch.data _) | exact .v _ _ | (refine ⟨?_, ?_⟩)
       ·
        refine aAt_op rfl rfl fun Q0 q0 => ?_
        simp only [↓bO, go_sem, seval, Sch.cells]
        refine q0 _ ⟨⟨rfl, rfl, rfl, rfl, trivial⟩, ?_⟩
        clear q0 Q0
        refine NAny_all1 (i := 1) (by kernel_rfl) rfl (fun d h => by cases h; rfl) ?_
        refine aAt_op rfl rfl fun Q0 q0 => ?_
        simp only [↓bO, go_sem, seval, Sch.cells]
        refine APure.call (Own16_pure a) ?_
        try simp only [bS, bA]
        refine q0 _ ⟨⟨rfl, rfl, rfl, rfl, trivial⟩, ?_⟩
        clear q0 Q0
        refine NAny_all1 (i := 3) (by kernel_rfl) rfl (fun d h => by cases h; rfl) ?_
        refine aAt_op rfl rfl fun Q0 q0 => ?_
        simp only [↓bO, go_sem, seval, Sch.cells]
        refine APure.call (Own16_pure b) ?_
        try simp only [bS, bA]
        refine q0 _ ⟨⟨rfl, rfl, rfl, rfl, trivial⟩, ?_⟩
        clear q0 Q0
        refine NAny_all1 (i := 6) (by kernel_rfl) rfl (fun d h => by cases h) ?_
        refine aAt_op rfl rfl fun Q0 q0 => ?_
        simp only [↓bO, go_sem, seval, Sch.cells]
        refine q0 _ ⟨⟨rfl, rfl, rfl, rfl, trivial⟩, ?_⟩
        clear q0 Q0
        refine NAny_all1 (i := 7) (by kernel_rfl) rfl (fun d h => by cases h) ?_
        refine aAt_op rfl rfl fun Q0 q0 => ?_
        simp only [↓bO, go_sem, seval, Sch.cells]
        refine q0 _ ⟨⟨rfl, rfl, rfl, rfl, trivial⟩, ?_⟩
        clear q0 Q0
        refine NAny_done (by kernel_rfl) ?_
        simp only [thenQ, blockQ, noGotoQ]
        try simp only [maskL, setsL, putsO, putO, mB, List.set_cons_zero, List.set_cons_succ, seval]
        first | refine ⟨trivial, ?_⟩ | skip
        refine Weak.freeze ?_ trivial (by first | omega | (simp only; omega)) (by first | omega | (simp only; omega)) ?_ ?_
        · repeat' first | trivial | exact .inr ⟨_, _, _, rfl, rfl, rfl, rfl⟩ | exact .inl (.refl _) | exact .inl (.any _) | (refine ⟨?_, ?_⟩)
        · repeat' first | exact trivial | exact .any _ | exact .v _ _ | exact .ptr (by omega) | exact Und.data (dataInts _) | exact Und.data Sch.eptr | exact Und.data Sch.agg | exact Und.data (Ty.dataSl _) | exact Und.data (.eptr (Ty.data _)) | exact Und.data (.eptr (.cons (dataInts _) .nil)) | exact .own (by omega) | (refine ⟨?_, ?_⟩)
        · repeat' first | exact trivial | (with_reducible omega) | exact Und.rowI (iD_data _) | exact UndL.data (Ty.data _) | exact UndL.data (Sch.data _) | exact .v _ _ | (refine ⟨?_, ?_⟩)
      ·
       refine aAt_op rfl rfl fun Q0 q0 => ?_
       simp only [↓bO, go_sem, seval, Sch.cells]
       refine q0 _ ⟨⟨rfl, rfl, rfl, rfl, trivial⟩, ?_⟩
       clear q0 Q0
       refine NAny_all2 (i := 1) (j := 4) (by kernel_rfl) rfl rfl (fun d h => by cases h; rfl) (fun d h => by cases h; rfl) ?_ ?_
       ·
        refine aAt_op rfl rfl fun Q0 q0 => ?_
        simp only [↓bO, go_sem, seval, Sch.cells]
        refine APure.call (Own16_pure a) ?_
        try simp only [bS, bA]
        refine q0 _ ⟨⟨rfl, rfl, rfl, rfl, trivial⟩, ?_⟩
        clear q0 Q0
        refine NAny_all2 (i := 3) (j := 4) (by kernel_rfl) rfl rfl (fun d h => by cases h; rfl) (fun d h => by cases h; rfl) ?_ ?_
        ·
         refine aAt_op rfl rfl fun Q0 q0 => ?_
         simp only [↓bO, go_sem, seval, Sch.cells]
         refine APure.call (Own16_pure b) ?_
         try simp only [bS, bA]
         refine q0 _ ⟨⟨rfl, rfl, rfl, rfl, trivial⟩, ?_⟩
         clear q0 Q0
         refine NAny_all1 (i := 4) (by kernel_rfl) rfl (fun d h => by cases h; rfl) ?_
         refine aAt_op rfl rfl fun Q0 q0 => ?_
         simp only [↓bO, go_sem, seval, Sch.cells]
         refine q0 _ ⟨⟨rfl, rfl, rfl, rfl, trivial⟩, ?_⟩
         clear q0 Q0
         refine NAny_all1 (i := 6) (by kernel_rfl) rfl (fun d h => by cases h) ?_
         refine aAt_op rfl rfl fun Q0 q0 => ?_
         simp only [↓bO, go_sem, seval, Sch.cells]
         refine q0 _ ⟨⟨rfl, rfl, rfl, rfl, trivial⟩, ?_⟩
         clear q0 Q0
         refine NAny_all1 (i := 7) (by kernel_rfl) rfl (fun d h => by cases h) ?_
         refine aAt_op rfl rfl fun Q0 q0 => ?_
         simp only [↓bO, go_sem, seval, Sch.cells]
         refine q0 _ ⟨⟨rfl, rfl, rfl, rfl, trivial⟩, ?_⟩
         clear q0 Q0
         refine NAny_done (by kernel_rfl) ?_
         simp only [thenQ, blockQ, noGotoQ]
         try simp only [maskL, setsL, putsO, putO, mB, List.set_cons_zero, List.set_cons_succ, seval]
         first | refine ⟨trivial, ?_⟩ | skip
         refine Weak.freeze ?_ trivial (by first | omega | (simp only; omega)) (by first | omega | (simp only; omega)) ?_ ?_
         · repeat' first | trivial | exact .inr ⟨_, _, _, rfl, rfl, rfl, rfl⟩ | exact .inl (.refl _) | exact .inl (.any _) | (refine ⟨?_, ?_⟩)
         · repeat' first | exact trivial | exact .any _ | exact .v _ _ | exact .ptr (by omega) | exact Und.data (dataInts _) | exact Und.data Sch.eptr | exact Und.data Sch.agg | exact Und.data (Ty.dataSl _) | exact Und.data (.eptr (Ty.data _)) | exact Und.data (.eptr (.cons (dataInts _) .nil)) | exact .own (by omega) | (refine ⟨?_, ?_⟩)
         · repeat' first | exact trivial | (with_reducible omega) | exact Und.rowI (iD_data _) | exact UndL.data (Ty.data _) | exact UndL.data (Sch.data _) | exact .v _ _ | (refine ⟨?_, ?_⟩)
        ·
         refine aAt_op rfl rfl fun Q0 q0 => ?_
         simp only [↓bO, go_sem, seval, Sch.cells]
         refine q0 _ ⟨⟨rfl, rfl, rfl, rfl, trivial⟩, ?_⟩
         clear q0 Q0
         refine NAny_all1 (i := 3) (by kernel_rfl) rfl (fun d h => by cases h; rfl) ?_
         refine aAt_op rfl rfl fun Q0 q0 => ?_
         simp only [↓bO, go_sem, seval, Sch.cells]
         refine APure.call (Own16_pure b) ?_
         try simp only [bS, bA]
         refine q0 _ ⟨⟨rfl, rfl, rfl, rfl, trivial⟩, ?_⟩
         clear q0 Q0
         refine NAny_all1 (i := 6) (by kernel_rfl) rfl (fun d h => by cases h) ?_
         refine aAt_op rfl rfl fun Q0 q0 => ?_
         simp only [↓bO, go_sem, seval, Sch.cells]
         refine q0 _ ⟨⟨rfl, rfl, rfl, rfl, trivial⟩, ?_⟩
         clear q0 Q0
         refine NAny_all1 (i := 7) (by kernel_rfl) rfl (fun d h => by cases h) ?_
         refine aAt_op rfl rfl fun Q0 q0 => ?_
         simp only [↓bO, go_sem, seval, Sch.cells]
         refine q0 _ ⟨⟨rfl, rfl, rfl, rfl, trivial⟩, ?_⟩
         clear q0 Q0
         refine NAny_done (by kernel_rfl) ?_
         simp only [thenQ, blockQ, noGotoQ]
         try simp only [maskL, setsL, putsO, putO, mB, List.set_cons_zero, List.set_cons_succ, seval]
         first | refine ⟨trivial, ?_⟩ | skip
         refine Weak.freeze ?_ trivial (by first | omega | (simp only; omega)) (by first | omega | (simp only; omega)) ?_ ?_
         · repeat' first | trivial | exact .inr ⟨_, _, _, rfl, rfl, rfl, rfl⟩ | exact .inl (.refl _) | exact .inl (.any _) | (refine ⟨?_, ?_⟩)
         · repeat' first | exact trivial | exact .any _ | exact .v _ _ | exact .ptr (by omega) | exact Und.data (dataInts _) | exact Und.data Sch.eptr | exact Und.data Sch.agg | exact Und.data (Ty.dataSl _) | exact Und.data (.eptr (Ty.data _)) | exact Und.data (.eptr (.cons (dataInts _) .nil)) | exact .own (by omega) | (refine ⟨?_, ?_⟩)
         · repeat' first | exact trivial | (with_reducible omega) | exact Und.rowI (iD_data _) | exact UndL.data (Ty.data _) | exact UndL.data (Sch.data _) | exact .v _ _ | (refine ⟨?_, ?_⟩)
       ·
        refine aAt_op rfl rfl fun Q0 q0 => ?_
        simp only [↓bO, go_sem, seval, Sch.cells]
        refine q0 _ ⟨⟨rfl, rfl, rfl, rfl, trivial⟩, ?_⟩
        clear q0 Q0
        refine NAny_all1 (i := 1) (by kernel_rfl) rfl (fun d h => by cases h; rfl) ?_
        refine aAt_op rfl rfl fun Q0 q0 => ?_
        simp only [↓bO, go_sem, seval, Sch.cells]
        refine APure.call (Own16_pure a) ?_
        try simp only [bS, bA]
        refine q0 _ ⟨⟨rfl, rfl, rfl, rfl, trivial⟩, ?_⟩
        clear q0 Q0
        refine NAny_all1 (i := 3) (by kernel_rfl) rfl (fun d h => by cases h; rfl) ?_
        refine aAt_op rfl rfl fun Q0 q0 => ?_
        simp only [↓bO, go_sem, seval, Sch.cells]
        refine APure.call (Own16_pure b) ?_
        try simp only [bS, bA]
        refine q0 _ ⟨⟨rfl, rfl, rfl, rfl, trivial⟩, ?_⟩
        clear q0 Q0
        refine NAny_all1 (i := 6) (by kernel_rfl) rfl (fun d h => by cases h) ?_
        refine aAt_op rfl rfl fun Q0 q0 => ?_
        simp only [↓bO, go_sem, seval, Sch.cells]
        refine q0 _ ⟨⟨rfl, rfl, rfl, rfl, trivial⟩, ?_⟩
        clear q0 Q0
        refine NAny_all1 (i := 7) (by kernel_rfl) rfl (fun d h => by cases h) ?_
        refine aAt_op rfl rfl fun Q0 q0 => ?_
        simp only [↓bO, go_sem, seval, Sch.cells]
        refine q0 _ ⟨⟨rfl, rfl, rfl, rfl, trivial⟩, ?_⟩
        clear q0 Q0
        refine NAny_done (by kernel_rfl) ?_
        simp only [thenQ, blockQ, noGotoQ]
        try simp only [maskL, setsL, putsO, putO, mB, List.set_cons_zero, List.set_cons_succ, seval]
        first | refine ⟨trivial, ?_⟩ | skip
        refine Weak.freeze ?_ trivial (by first | omega | (simp only; omega)) (by first | omega | (simp only; omega)) ?_ ?_
        · repeat' first | trivial | exact .inr ⟨_, _, _, rfl, rfl, rfl, rfl⟩ | exact .inl (.refl _) | exact .inl (.any _) | (refine ⟨?_, ?_⟩)
        · repeat' first | exact trivial | exact .any _ | exact .v _ _ | exact .ptr (by omega) | exact Und.data (dataInts _) | exact Und.data Sch.eptr | exact Und.data Sch.agg | exact Und.data (Ty.dataSl _) | exact Und.data (.eptr (Ty.data _)) | exact Und.data (.eptr (.cons (dataInts _) .nil)) | exact .own (by omega) | (refine ⟨?_, ?_⟩)
        · repeat' first | exact trivial | (with_reducible omega) | exact Und.rowI (iD_data _) | exact UndL.data (Ty.data _) | exact UndL.data (Sch.data _) | exact .v _ _ | (refine ⟨?_, ?_⟩)
     simp only [maskL, setsL, putsO, putO, mB, List.set_cons_zero, List.set_cons_succ, seval]
     refine AWp_seqK fun Y0 y0 => ?_
     refine AWp_seqK fun Y1 y1 => ?_
     refine AWp_region ?_
     iterate 2 (refine aops_chunk 1 fun Q0 q0 => ?_; simp only [↓bO, go_sem, seval, Sch.cells]; refine q0 _ ?_; clear q0 Q0; simp only [go_sem])
     refine aops_chunk 1 fun Q0 q0 => ?_
     simp only [↓bO, go_sem, seval, Sch.cells]
     refine APure.call (SMore_pure a b (by omega) (by omega) (by omega) (by omega)) ?_
     try simp only [bS, bA, thenQ, blockQ, noGotoQ]
     refine q0 _ ?_
     clear q0 Q0
     simp only [go_sem]
     refine aops_chunk 1 fun Q0 q0 => ?_
     simp only [↓bO, go_sem, seval, Sch.cells]
     refine q0 _ ?_
     clear q0 Q0
     simp only [go_sem]
     refine aops_case 27 rfl (fun hc27 => ?_) (fun hc27 => ?_)
     ·
      simp only [List.set_cons_zero, List.set_cons_succ]
      have hmo : moreC a b = true := by (have h9 := hc27; simpa using h9)
      iterate 2 (refine aops_chunk 1 fun Q0 q0 => ?_; simp only [↓bO, go_sem, seval, Sch.cells]; refine q0 _ ?_; clear q0 Q0; simp only [go_sem])
      refine aops_chunk 1 fun Q0 q0 => ?_
      simp only [↓bO, go_sem, seval, Sch.cells]
      refine APure.call (SInst_pure b t (by omega) (by omega) (by omega)) ?_
      try simp only [bS, bA, thenQ, blockQ, noGotoQ]
      iterate 2 (refine q0 _ ?_; clear q0 Q0; simp only [go_sem]; refine aops_chunk 1 fun Q0 q0 => ?_; simp only [↓bO, go_sem, seval, Sch.cells])
      refine q0 _ ?_
      clear q0 Q0
      simp only [go_sem]
      refine aops_case 32 rfl (fun hc32 => ?_) (fun hc32 => ?_)
      ·
       simp only [List.set_cons_zero, List.set_cons_succ]
       have hib : instC b t = true := by (have h9 := hc32; simpa using h9)
       iterate 2 (refine aops_chunk 1 fun Q0 q0 => ?_; simp only [↓bO, go_sem, seval, Sch.cells]; refine q0 _ ?_; clear q0 Q0; simp only [go_sem])
       refine aops_chunk 1 fun Q0 q0 => ?_
       simp only [↓bO, go_sem, seval, Sch.cells]
       refine APure.call (SInst_pure a t (by omega) (by omega) (by omega)) ?_
       try simp only [bS, bA, thenQ, blockQ, noGotoQ]
       refine q0 _ ?_
       clear q0 Q0
       simp only [go_sem]
       refine aops_chunk 1 fun Q0 q0 => ?_
       simp only [↓bO, go_sem, seval, Sch.cells]
       refine q0 _ ?_
       clear q0 Q0
       simp only [go_sem]
       simp only [↓bO, go_sem, seval, Sch.cells]
       refine y1 _ ?_
       try clear y1 Y1
       refine AWp_cond rfl (fun hb37 => ?_) (fun hb37 => ?_)
       ·
        exact absurd hb37 (by first | (rw [more_inst hmo hib]; decide) | decide)
       ·
        refine AWp_skip ?_
        try simp only [thenQ, blockQ, noGotoQ]
        refine y0 _ ?_
        try clear y0 Y0
        refine AWp_seqK fun Y0 y0 => ?_
        refine AWp_seqK fun Y1 y1 => ?_
        refine AWp_drawK 12 mixed (by kernel_rfl) fun J0 j0 => ?_
        iterate 2 (simp only [go_sem]; refine dRun_chunk 1 fun Q0 q0 => ?_; simp only [↓dRun, ↓dOp, ↓bO, go_sem, seval, Sch.cells]; refine q0 _ ?_; clear q0 Q0)
        simp only [go_sem]
        refine dRun_chunk 1 fun Q0 q0 => ?_
        simp only [↓dRun, ↓dOp, ↓bO, go_sem, seval, Sch.cells]
        refine ⟨_, SAlike_pure a b (by omega) (by omega) (by omega) (by omega) (by have h9 := canonS_len a; omega), ?_⟩
        try simp only [bS, bA, thenQ, blockQ, noGotoQ]
        refine q0 _ ?_
        clear q0 Q0
        simp only [go_sem]
        refine dRun_chunk 1 fun Q0 q0 => ?_
        simp only [↓dRun, ↓dOp, ↓bO, go_sem, seval, Sch.cells]
        refine q0 _ ?_
        clear q0 Q0
        simp only [go_sem]
        refine dRun_case 41 rfl (fun hc41 => ?_) (fun hc41 => ?_)
        ·
         simp only [List.set_cons_zero, List.set_cons_succ]
         have hal : alikeC a b = true := by (have h9 := hc41; simpa using h9)
         iterate 2 (refine dRun_chunk 1 fun Q0 q0 => ?_; simp only [↓dRun, ↓dOp, ↓bO, go_sem, seval, Sch.cells]; refine q0 _ ?_; clear q0 Q0; simp only [go_sem])
         refine dRun_chunk 1 fun Q0 q0 => ?_
         simp only [↓dRun, ↓dOp, ↓bO, go_sem, seval, Sch.cells]
         refine ⟨_, SInst_pure a t (by omega) (by omega) (by omega), ?_⟩
         try simp only [bS, bA, thenQ, blockQ, noGotoQ]
         iterate 3 (refine q0 _ ?_; clear q0 Q0; simp only [go_sem]; refine dRun_chunk 1 fun Q0 q0 => ?_; simp only [↓dRun, ↓dOp, ↓bO, go_sem, seval, Sch.cells])
         refine ⟨_, SInst_pure b t (by omega) (by omega) (by omega), ?_⟩
         try simp only [bS, bA, thenQ, blockQ, noGotoQ]
         refine q0 _ ?_
         clear q0 Q0
         simp only [go_sem]
         refine dRun_chunk 1 fun Q0 q0 => ?_
         simp only [↓dRun, ↓dOp, ↓bO, go_sem, seval, Sch.cells]
         refine q0 _ ?_
         clear q0 Q0
         simp only [go_sem]
         simp only [↓dRun, ↓dOp, ↓bO, go_sem, seval, Sch.cells]
         refine j0 _ ?_
         clear j0 J0
         simp only [bL, aops, thenQ, blockQ, noGotoQ]
         refine y1 _ ?_
         try clear y1 Y1
         refine AWp_cond rfl (fun hb49 => ?_) (fun hb49 => ?_)
         ·
          exact absurd hb49 (by first | (rw [alike_inst hal t]; simp; done) | decide)
         ·
          refine AWp_skip ?_
          try simp only [thenQ, blockQ, noGotoQ]
          refine y0 _ ?_
          try clear y0 Y0
          refine AWp_seqK fun Y0 y0 => ?_
          refine AWp_region ?_
          refine aops_chunk 1 fun Q0 q0 => ?_
          simp only [↓bO, go_sem, seval, Sch.cells]
          refine APure.call (hA) ?_
          try simp only [bS, bA, thenQ, blockQ, noGotoQ]
          refine q0 _ ?_
          clear q0 Q0
          simp only [go_sem]
          simp only [↓bO, go_sem, seval, Sch.cells]
          refine y0 _ ?_
          try clear y0 Y0
          refine AWp_ret ?_
          try simp only [thenQ, blockQ, noGotoQ, retQ, aRes, tupOf, bS, bA]
          exact Le.refl _
        ·
         simp only [List.set_cons_zero, List.set_cons_succ]
         have hal : alikeC a b = false := by (have h9 := hc41; simpa using h9)
         iterate 7 (refine dRun_chunk 1 fun Q0 q0 => ?_; simp only [↓dRun, ↓dOp, ↓bO, go_sem, seval, Sch.cells]; refine q0 _ ?_; clear q0 Q0; simp only [go_sem])
         simp only [↓dRun, ↓dOp, ↓bO, go_sem, seval, Sch.cells]
         refine j0 _ ?_
         clear j0 J0
         simp only [bL, aops, thenQ, blockQ, noGotoQ]
         refine y1 _ ?_
         try clear y1 Y1
         refine AWp_cond (b := false) (by first | exact rfl | exact congrArg (fun b => AV.v (.bool b)) hb49) (fun h => (by cases h)) (fun _ => ?_)
         refine AWp_skip ?_
         try simp only [thenQ, blockQ, noGotoQ]
         refine y0 _ ?_
         try clear y0 Y0
         refine AWp_seqK fun Y0 y0 => ?_
         refine AWp_region ?_
         refine aops_chunk 1 fun Q0 q0 => ?_
         simp only [↓bO, go_sem, seval, Sch.cells]
         refine APure.call (hA) ?_
         try simp only [bS, bA, thenQ, blockQ, noGotoQ]
         refine q0 _ ?_
         clear q0 Q0
         simp only [go_sem]
         simp only [↓bO, go_sem, seval, Sch.cells]
         refine y0 _ ?_
         try clear y0 Y0
         refine AWp_ret ?_
         try simp only [thenQ, blockQ, noGotoQ, retQ, aRes, tupOf, bS, bA]
         exact Le.refl _
      ·
       simp only [List.set_cons_zero, List.set_cons_succ]
       have hib : instC b t = false := by (have h9 := hc32; simpa using h9)
       iterate 4 (refine aops_chunk 1 fun Q0 q0 => ?_; simp only [↓bO, go_sem, seval, Sch.cells]; refine q0 _ ?_; clear q0 Q0; simp only [go_sem])
       simp only [↓bO, go_sem, seval, Sch.cells]
       refine y1 _ ?_
       try clear y1 Y1
       refine AWp_cond (b := false) (by first | exact rfl | exact congrArg (fun b => AV.v (.bool b)) hb37) (fun h => (by cases h)) (fun _ => ?_)
       refine AWp_skip ?_
       try simp only [thenQ, blockQ, noGotoQ]
       refine y0 _ ?_
       try clear y0 Y0
       refine AWp_seqK fun Y0 y0 => ?_
       refine AWp_seqK fun Y1 y1 => ?_
       refine AWp_drawK 12 mixed (by kernel_rfl) fun J0 j0 => ?_
       iterate 2 (simp only [go_sem]; refine dRun_chunk 1 fun Q0 q0 => ?_; simp only [↓dRun, ↓dOp, ↓bO, go_sem, seval, Sch.cells]; refine q0 _ ?_; clear q0 Q0)
       simp only [go_sem]
       refine dRun_chunk 1 fun Q0 q0 => ?_
       simp only [↓dRun, ↓dOp, ↓bO, go_sem, seval, Sch.cells]
       refine ⟨_, SAlike_pure a b (by omega) (by omega) (by omega) (by omega) (by have h9 := canonS_len a; omega), ?_⟩
       try simp only [bS, bA, thenQ, blockQ, noGotoQ]
       refine q0 _ ?_
       clear q0 Q0
       simp only [go_sem]
       refine dRun_chunk 1 fun Q0 q0 => ?_
       simp only [↓dRun, ↓dOp, ↓bO, go_sem, seval, Sch.cells]
       refine q0 _ ?_
       clear q0 Q0
       simp only [go_sem]
       refine dRun_case 41 rfl (fun hc41 => ?_) (fun hc41 => ?_)
       ·
        simp only [List.set_cons_zero, List.set_cons_succ]
        have hal : alikeC a b = true := by (have h9 := hc41; simpa using h9)
        iterate 2 (refine dRun_chunk 1 fun Q0 q0 => ?_; simp only [↓dRun, ↓dOp, ↓bO, go_sem, seval, Sch.cells]; refine q0 _ ?_; clear q0 Q0; simp only [go_sem])
        refine dRun_chunk 1 fun Q0 q0 => ?_
        simp only [↓dRun, ↓dOp, ↓bO, go_sem, seval, Sch.cells]
        refine ⟨_, SInst_pure a t (by omega) (by omega) (by omega), ?_⟩
        try simp only [bS, bA, thenQ, blockQ, noGotoQ]
        iterate 3 (refine q0 _ ?_; clear q0 Q0; simp only [go_sem]; refine dRun_chunk 1 fun Q0 q0 => ?_; simp only [↓dRun, ↓dOp, ↓bO, go_sem, seval, Sch.cells])
        refine ⟨_, SInst_pure b t (by omega) (by omega) (by omega), ?_⟩
        try simp only [bS, bA, thenQ, blockQ, noGotoQ]
        refine q0 _ ?_
        clear q0 Q0
        simp only [go_sem]
        refine dRun_chunk 1 fun Q0 q0 => ?_
        simp only [↓dRun, ↓dOp, ↓bO, go_sem, seval, Sch.cells]
        refine q0 _ ?_
        clear q0 Q0
        simp only [go_sem]
        simp only [↓dRun, ↓dOp, ↓bO, go_sem, seval, Sch.cells]
        refine j0 _ ?_
        clear j0 J0
        simp only [bL, aops, thenQ, blockQ, noGotoQ]
        refine y1 _ ?_
        try clear y1 Y1
        refine AWp_cond rfl (fun hb49 => ?_) (fun hb49 => ?_)
        ·
         exact absurd hb49 (by first | (rw [alike_inst hal t]; simp; done) | decide)
        ·
         refine AWp_skip ?_
         try simp only [thenQ, blockQ, noGotoQ]
         refine y0 _ ?_
         try clear y0 Y0
         refine AWp_seqK fun Y0 y0 => ?_
         refine AWp_region ?_
         refine aops_chunk 1 fun Q0 q0 => ?_
         simp only [↓bO, go_sem, seval, Sch.cells]
         refine APure.call (hA) ?_
         try simp only [bS, bA, thenQ, blockQ, noGotoQ]
         refine q0 _ ?_
         clear q0 Q0
         simp only [go_sem]
         simp only [↓bO, go_sem, seval, Sch.cells]
         refine y0 _ ?_
         try clear y0 Y0
         refine AWp_ret ?_
         try simp only [thenQ, blockQ, noGotoQ, retQ, aRes, tupOf, bS, bA]
         exact Le.refl _
       ·
        simp only [List.set_cons_zero, List.set_cons_succ]
        have hal : alikeC a b = false := by (have h9 := hc41; simpa using h9)
        iterate 7 (refine dRun_chunk 1 fun Q0 q0 => ?_; simp only [↓dRun, ↓dOp, ↓bO, go_sem, seval, Sch.cells]; refine q0 _ ?_; clear q0 Q0; simp only [go_sem])
        simp only [↓dRun, ↓dOp, ↓bO, go_sem, seval, Sch.cells]
        refine j0 _ ?_
        clear j0 J0
        simp only [bL, aops, thenQ, blockQ, noGotoQ]
        refine y1 _ ?_
        try clear y1 Y1
        refine AWp_cond (b := false) (by first | exact rfl | exact congrArg (fun b => AV.v (.bool b)) hb49) (fun h => (by cases h)) (fun _ => ?_)
        refine AWp_skip ?_
        try simp only [thenQ, blockQ, noGotoQ]
        refine y0 _ ?_
        try clear y0 Y0
        refine AWp_seqK fun Y0 y0 => ?_
        refine AWp_region ?_
        refine aops_chunk 1 fun Q0 q0 => ?_
        simp only [↓bO, go_sem, seval, Sch.cells]
        refine APure.call (hA) ?_
        try simp only [bS, bA, thenQ, blockQ, noGotoQ]
        refine q0 _ ?_
        clear q0 Q0
        simp only [go_sem]
        simp only [↓bO, go_sem, seval, Sch.cells]
        refine y0 _ ?_
        try clear y0 Y0
        refine AWp_ret ?_
        try simp only [thenQ, blockQ, noGotoQ, retQ, aRes, tupOf, bS, bA]
        exact Le.refl _
     ·
      simp only [List.set_cons_zero, List.set_cons_succ]
      have hmo : moreC a b = false := by (have h9 := hc27; simpa using h9)
      iterate 9 (refine aops_chunk 1 fun Q0 q0 => ?_; simp only [↓bO, go_sem, seval, Sch.cells]; refine q0 _ ?_; clear q0 Q0; simp only [go_sem])
      simp only [↓bO, go_sem, seval, Sch.cells]
      refine y1 _ ?_
      try clear y1 Y1
      refine AWp_cond (b := false) (by first | exact rfl | exact congrArg (fun b => AV.v (.bool b)) hb37) (fun h => (by cases h)) (fun _ => ?_)
      refine AWp_skip ?_
      try simp only [thenQ, blockQ, noGotoQ]
      refine y0 _ ?_
      try clear y0 Y0
      refine AWp_seqK fun Y0 y0 => ?_
      refine AWp_seqK fun Y1 y1 => ?_
      refine AWp_drawK 12 mixed (by kernel_rfl) fun J0 j0 => ?_
      iterate 2 (simp only [go_sem]; refine dRun_chunk 1 fun Q0 q0 => ?_; simp only [↓dRun, ↓dOp, ↓bO, go_sem, seval, Sch.cells]; refine q0 _ ?_; clear q0 Q0)
      simp only [go_sem]
      refine dRun_chunk 1 fun Q0 q0 => ?_
      simp only [↓dRun, ↓dOp, ↓bO, go_sem, seval, Sch.cells]
      refine ⟨_, SAlike_pure a b (by omega) (by omega) (by omega) (by omega) (by have h9 := canonS_len a; omega), ?_⟩
      try simp only [bS, bA, thenQ, blockQ, noGotoQ]
      refine q0 _ ?_
      clear q0 Q0
      simp only [go_sem]
      refine dRun_chunk 1 fun Q0 q0 => ?_
      simp only [↓dRun, ↓dOp, ↓bO, go_sem, seval, Sch.cells]
      refine q0 _ ?_
      clear q0 Q0
      simp only [go_sem]
      refine dRun_case 41 rfl (fun hc41 => ?_) (fun hc41 => ?_)
      ·
       simp only [List.set_cons_zero, List.set_cons_succ]
       have hal : alikeC a b = true := by (have h9 := hc41; simpa using h9)
       iterate 2 (refine dRun_chunk 1 fun Q0 q0 => ?_; simp only [↓dRun, ↓dOp, ↓bO, go_sem, seval, Sch.cells]; refine q0 _ ?_; clear q0 Q0; simp only [go_sem])
       refine dRun_chunk 1 fun Q0 q0 => ?_
       simp only [↓dRun, ↓dOp, ↓bO, go_sem, seval, Sch.cells]
       refine ⟨_, SInst_pure a t (by omega) (by omega) (by omega), ?_⟩
       try simp only [bS, bA, thenQ, blockQ, noGotoQ]
       iterate 3 (refine q0 _ ?_; clear q0 Q0; simp only [go_sem]; refine dRun_chunk 1 fun Q0 q0 => ?_; simp only [↓dRun, ↓dOp, ↓bO, go_sem, seval, Sch.cells])
       refine ⟨_, SInst_pure b t (by omega) (by omega) (by omega), ?_⟩
       try simp only [bS, bA, thenQ, blockQ, noGotoQ]
       refine q0 _ ?_
       clear q0 Q0
       simp only [go_sem]
       refine dRun_chunk 1 fun Q0 q0 => ?_
       simp only [↓dRun, ↓dOp, ↓bO, go_sem, seval, Sch.cells]
       refine q0 _ ?_
       clear q0 Q0
       simp only [go_sem]
       simp only [↓dRun, ↓dOp, ↓bO, go_sem, seval, Sch.cells]
       refine j0 _ ?_
       clear j0 J0
       simp only [bL, aops, thenQ, blockQ, noGotoQ]
       refine y1 _ ?_
       try clear y1 Y1
       refine AWp_cond rfl (fun hb49 => ?_) (fun hb49 => ?_)
       ·
        exact absurd hb49 (by first | (rw [alike_inst hal t]; simp; done) | decide)
       ·
        refine AWp_skip ?_
        try simp only [thenQ, blockQ, noGotoQ]
        refine y0 _ ?_
        try clear y0 Y0
        refine AWp_seqK fun Y0 y0 => ?_
        refine AWp_region ?_
        refine aops_chunk 1 fun Q0 q0 => ?_
        simp only [↓bO, go_sem, seval, Sch.cells]
        refine APure.call (hA) ?_
        try simp only [bS, bA, thenQ, blockQ, noGotoQ]
        refine q0 _ ?_
        clear q0 Q0
        simp only [go_sem]
        simp only [↓bO, go_sem, seval, Sch.cells]
        refine y0 _ ?_
        try clear y0 Y0
        refine AWp_ret ?_
        try simp only [thenQ, blockQ, noGotoQ, retQ, aRes, tupOf, bS, bA]
        exact Le.refl _
      ·
       simp only [List.set_cons_zero, List.set_cons_succ]
       have hal : alikeC a b = false := by (have h9 := hc41; simpa using h9)
       iterate 7 (refine dRun_chunk 1 fun Q0 q0 => ?_; simp only [↓dRun, ↓dOp, ↓bO, go_sem, seval, Sch.cells]; refine q0 _ ?_; clear q0 Q0; simp only [go_sem])
       simp only [↓dRun, ↓dOp, ↓bO, go_sem, seval, Sch.cells]
       refine j0 _ ?_
       clear j0 J0
       simp only [bL, aops, thenQ, blockQ, noGotoQ]
       refine y1 _ ?_
       try clear y1 Y1
       refine AWp_cond (b := false) (by first | exact rfl | exact congrArg (fun b => AV.v (.bool b)) hb49) (fun h => (by cases h)) (fun _ => ?_)
       refine AWp_skip ?_
       try simp only [thenQ, blockQ, noGotoQ]
       refine y0 _ ?_
       try clear y0 Y0
       refine AWp_seqK fun Y0 y0 => ?_
       refine AWp_region ?_
       refine aops_chunk 1 fun Q0 q0 => ?_
       simp only [↓bO, go_sem, seval, Sch.cells]
       refine APure.call (hA) ?_
       try simp only [bS, bA, thenQ, blockQ, noGotoQ]
       refine q0 _ ?_
       clear q0 Q0
       simp only [go_sem]
       simp only [↓bO, go_sem, seval, Sch.cells]
       refine y0 _ ?_
       try clear y0 Y0
       refine AWp_ret ?_
       try simp only [thenQ, blockQ, noGotoQ, retQ, aRes, tupOf, bS, bA]
       exact Le.refl _
end Go.Proofs.YtheacaigeidflaaDoor
