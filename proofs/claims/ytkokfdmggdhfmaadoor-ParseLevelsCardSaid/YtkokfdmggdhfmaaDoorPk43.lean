/- Texts of the abstract walk, of the contracts and of the plain laws, packed (part 43 of 44): Ps8 Ps9 Ps10 Sg13 Sg14 Sg15 TkW NmL Sg19 Sg20 PwL LsA Sg21 Ps11 Ps12 Ps13 GdL Ps14 Ps26. Conditions: none. -/
import Derived.Test.YtkokfdmggdhfmaaDoorPk42
import Derived.Shelf.LaysM
import Derived.Shelf.LaysC
import Derived.Shelf.Strconv.Itoa3
import Derived.Lib.AtoiTie
import Derived.Shelf.Small.Wraps
import Derived.Shelf.Strconv.ErrVarAll
import Derived.Shelf.Strconv.AtoiAll
import Derived.Test.YtkokfdmggdhfmaaDoorProg
import Derived.Lib.AtoiErrMem
namespace Go.Proofs.YtkokfdmggdhfmaaDoor
open Go Go.RowKit
set_option maxRecDepth 100000
set_option maxHeartbeats 4000000
set_option linter.unusedSimpArgs false
set_option linter.unnecessarySimpa false
set_option linter.unusedVariables false
attribute [local irreducible] aops dRun
theorem level_g (l : List Tok) (m : Int) (i : Nat) (n : Int) : ∃ d : Int, QCalls 76 [.ptr 0 0, .v (.int .i64 n)] l m i 0 (.tup []) i d ∧ (m < n ∧ d = 4 ∨ ¬ m < n ∧ d = 0) := by
  have h9 := level_q l m i 0 n
  by_cases h : m < n
  · rw [if_pos ⟨h, rfl⟩] at h9
    exact ⟨_, h9, .inl ⟨h, rfl⟩⟩
  · rw [if_neg fun g => h g.1] at h9
    exact ⟨_, h9, .inr ⟨h, rfl⟩⟩
section
variable {E : Nat → Int → Rdx} {l : List Tok} {m n : Int} {i : Nat}
theorem ex_deep (h : m < n) : exR E l m i n = wr i 4 := if_pos h
theorem ex_fun (h : ¬ m < n) (h1 : isT l (i : Int) 3 bFun = true) : exR E l m i n = funR E l i n := by
  unfold exR
  rw [if_neg h, if_pos h1]
theorem ex_let (h : ¬ m < n) (h1 : isT l (i : Int) 3 bFun = false) (h2 : isT l (i : Int) 3 bLet = true) : exR E l m i n = if isT l ((i + 1 : Nat) : Int) 3 bRec = true then letR E l 7 i (i + 2) n else letR E l 6 i (i + 1) n := by
  unfold exR
  rw [if_neg h, if_neg (by rw [h1]; simp), if_pos h2]
theorem ex_if (h : ¬ m < n) (h1 : isT l (i : Int) 3 bFun = false) (h2 : isT l (i : Int) 3 bLet = false) (h3 : isT l (i : Int) 3 bIf = true) : exR E l m i n = ifR E l i n := by
  unfold exR
  rw [if_neg h, if_neg (by rw [h1]; simp), if_neg (by rw [h2]; simp), if_pos h3]
theorem ex_app (h : ¬ m < n) (h1 : isT l (i : Int) 3 bFun = false) (h2 : isT l (i : Int) 3 bLet = false) (h3 : isT l (i : Int) 3 bIf = false) : exR E l m i n = apx E l m i n := by
  unfold exR
  rw [if_neg h, if_neg (by rw [h1]; simp), if_neg (by rw [h2]; simp), if_neg (by rw [h3]; simp)]
  rfl
end
theorem exS_zero (l : List Tok) (m : Int) (f i : Nat) (n : Int) : exS (rx l m (f + 1)) i n 0 = exR (rx l m f) l m i n := if_pos rfl
theorem px_one (l : List Tok) (m : Int) (f i : Nat) (n e : Int) (hl : l.length ≤ 1048576) (hP : PxOk l m f) (hA : AtOk l m f) (hR : ROk l m f) (hf : e = 0 → l.length - i < f + 1) (hi : i ≤ l.length) (h3 : -1000000 ≤ n) (h4 : n + (l.length - i : Nat) ≤ 700000) : QEx 64 [.ptr 0 0, .v (.int .i64 n)] l m (i) (e) (exS (rx l m (f + 1)) i n e) := by
  generalize hr : exS (rx l m (f + 1)) i n e = r
  obtain ⟨d, hL, hd⟩ := level_g l m i n
  refine ACalls.clean (C := EXC l m r) ?_
  refine ACalls_intro Tryd.func64 (by kernel_rfl) rfl (by rw [Tryd.ntmps64]; simp) (fun hm => ?_)
  simp only [Tryd.ntmps64, Tryd.results64, List.length_cons, List.length_nil, Nat.reduceAdd, Nat.reduceSub, List.replicate_succ, List.replicate_zero, List.cons_append, List.nil_append]
  refine AWp_seqK fun Y0 y0 => ?_
  refine AWp_region ?_
  simp only [↓bO, go_sem, seval, Tok.cells, qC, partC, List.take, List.drop, enumO]
  refine y0 _ ?_
  try clear y0 Y0
  refine AWp_seqK fun Y0 y0 => ?_
  refine AWp_seqK fun Y1 y1 => ?_
  refine AWp_region ?_
  iterate 4 (refine aops_chunk 1 fun Q0 q0 => ?_; simp only [↓bO, go_sem, seval, Tok.cells, qC, partC, List.take, List.drop, enumO]; refine q0 _ ?_; clear q0 Q0; simp only [go_sem])
  simp only [↓bO, go_sem, seval, Tok.cells, qC, partC, List.take, List.drop, enumO]
  refine y1 _ ?_
  try clear y1 Y1
  refine AWp_cond rfl (fun hb9 => ?_) (fun hb9 => ?_)
  ·
   have he : ¬ e = 0 := by simpa using hb9
   obtain rfl : wr i e = r := (if_neg he).symm.trans hr
   refine AWp_seqK fun Y1 y1 => ?_
   refine AWp_region ?_
   refine aops_chunk 1 fun Q0 q0 => ?_
   simp only [↓bO, go_sem, seval, Tok.cells, qC, partC, List.take, List.drop, enumO]
   refine q0 _ ?_
   clear q0 Q0
   simp only [go_sem]
   simp only [↓bO, go_sem, seval, Tok.cells, qC, partC, List.take, List.drop, enumO]
   refine y1 _ ?_
   try clear y1 Y1
   refine AWp_ret ?_
   try simp only [thenQ, blockQ, noGotoQ, retQ, aRes, tupOf, bS, bA, aLoad, getO, pack, bL, Nat.reduceAdd, Nat.reduceLeDiff, Nat.reduceEqDiff, ↓reduceIte, ti102, tyX, Tok.cells, List.length_map, qC, partC, List.take, List.drop, enumO]
   refine ⟨_, _, ⟨zPt, ?_, rfl, rfl⟩, .data (.agg (partC_data _)), qUnd (by omega) _ _ _ _, ?_, ?_, by omega⟩
   · exact fun h => absurd h he
   · exact zPt_le
   · first | exact ⟨0, rfl, rfl⟩ | exact ⟨1, rfl, rfl⟩ | exact ⟨2, rfl, rfl⟩ | exact ⟨3, rfl, rfl⟩ | exact ⟨4, rfl, rfl⟩ | exact ⟨5, rfl, rfl⟩ | exact ⟨6, rfl, rfl⟩ | exact ⟨7, rfl, rfl⟩ | exact ⟨8, rfl, rfl⟩ | exact ⟨9, rfl, rfl⟩
  ·
   have he : e = 0 := by simpa using hb9
   subst he
   rw [exS_zero] at hr
   have hf := hf rfl
   refine AWp_skip ?_
   try simp only [thenQ, blockQ, noGotoQ]
   refine y0 _ ?_
   try clear y0 Y0
   refine AWp_seqK fun Y0 y0 => ?_
   refine AWp_region ?_
   iterate 2 (refine aops_chunk 1 fun Q0 q0 => ?_; simp only [↓bO, go_sem, seval, Tok.cells, qC, partC, List.take, List.drop, enumO]; refine q0 _ ?_; clear q0 Q0; simp only [go_sem])
   simp only [↓bO, go_sem, seval, Tok.cells, qC, partC, List.take, List.drop, enumO]
   refine QCalls.at (k := 0) hL ?_ (.tup .nil) rfl (by first | omega | (simp only; omega)) ?_
   · exact ⟨.ptr rfl, .v _, trivial⟩
   simp only [putO, Nat.reduceEqDiff, ↓reduceIte]
   try simp only [bS, bA, thenQ, blockQ, noGotoQ]
   refine y0 _ ?_
   try clear y0 Y0
   refine AWp_seqK fun Y0 y0 => ?_
   refine AWp_block ?_
   refine AWp_seqK fun Y1 y1 => ?_
   refine AWp_region ?_
   iterate 5 (refine aops_chunk 1 fun Q0 q0 => ?_; simp only [↓bO, go_sem, seval, Tok.cells, qC, partC, List.take, List.drop, enumO]; refine q0 _ ?_; clear q0 Q0; simp only [go_sem])
   simp only [↓bO, go_sem, seval, Tok.cells, qC, partC, List.take, List.drop, enumO]
   refine y1 _ ?_
   try clear y1 Y1
   refine AWp_cond rfl (fun hb14 => ?_) (fun hb14 => ?_)
   ·
    obtain ⟨hdm, rfl⟩ := hd.resolve_right fun h => by simp [h.2] at hb14
    obtain rfl := hr.symm.trans (ex_deep hdm)
    refine AWp_seqK fun Y1 y1 => ?_
    refine AWp_region ?_
    refine aops_chunk 1 fun Q0 q0 => ?_
    simp only [↓bO, go_sem, seval, Tok.cells, qC, partC, List.take, List.drop, enumO]
    refine q0 _ ?_
    clear q0 Q0
    simp only [go_sem]
    simp only [↓bO, go_sem, seval, Tok.cells, qC, partC, List.take, List.drop, enumO]
    refine y1 _ ?_
    try clear y1 Y1
    refine AWp_ret ?_
    try simp only [thenQ, blockQ, noGotoQ, retQ, aRes, tupOf, bS, bA, aLoad, getO, pack, bL, Nat.reduceAdd, Nat.reduceLeDiff, Nat.reduceEqDiff, ↓reduceIte, ti102, tyX, Tok.cells, List.length_map, qC, partC, List.take, List.drop, enumO]
    refine ⟨_, _, ⟨zPt, ?_, rfl, rfl⟩, .data (.agg (partC_data _)), qUnd (by omega) _ _ _ _, ?_, ?_, by omega⟩
    · exact fun h => absurd (show (4 : Int) = 0 from h) (by decide)
    · exact zPt_le
    · first | exact ⟨0, rfl, rfl⟩ | exact ⟨1, rfl, rfl⟩ | exact ⟨2, rfl, rfl⟩ | exact ⟨3, rfl, rfl⟩ | exact ⟨4, rfl, rfl⟩ | exact ⟨5, rfl, rfl⟩ | exact ⟨6, rfl, rfl⟩ | exact ⟨7, rfl, rfl⟩ | exact ⟨8, rfl, rfl⟩ | exact ⟨9, rfl, rfl⟩
   ·
    obtain ⟨hdm, rfl⟩ := hd.resolve_left fun h => by simp [h.2] at hb14
    refine AWp_seqK fun Y1 y1 => ?_
    refine AWp_region ?_
    iterate 3 (refine aops_chunk 1 fun Q0 q0 => ?_; simp only [↓bO, go_sem, seval, Tok.cells, qC, partC, List.take, List.drop, enumO]; refine q0 _ ?_; clear q0 Q0; simp only [go_sem])
    refine aops_chunk 1 fun Q0 q0 => ?_
    simp only [↓bO, go_sem, seval, Tok.cells, qC, partC, List.take, List.drop, enumO]
    refine QCalls.at (k := 0) (take_q l m i 0 3 bFun hl) ?_ (.v _) rfl (by first | omega | (simp only; omega)) ?_
    · exact ⟨.ptr rfl, .v _, .v _, trivial⟩
    simp only [putO, Nat.reduceEqDiff, ↓reduceIte]
    try simp only [bS, bA, thenQ, blockQ, noGotoQ]
    refine q0 _ ?_
    clear q0 Q0
    simp only [go_sem]
    simp only [↓bO, go_sem, seval, Tok.cells, qC, partC, List.take, List.drop, enumO]
    refine y1 _ ?_
    try clear y1 Y1
    refine AWp_cond rfl (fun hb21 => ?_) (fun hb21 => ?_)
    ·
     have k1 : isT l (i : Int) 3 bFun = true := hb21
     simp only [k1, if_true]
     obtain rfl := hr.symm.trans (ex_fun hdm k1)
     refine AWp_seqK fun Y1 y1 => ?_
     refine AWp_region ?_
     iterate 4 (refine aops_chunk 1 fun Q0 q0 => ?_; simp only [↓bO, go_sem, seval, Tok.cells, qC, partC, List.take, List.drop, enumO]; refine q0 _ ?_; clear q0 Q0; simp only [go_sem])
     refine aops_chunk 1 fun Q0 q0 => ?_
     simp only [↓bO, go_sem, seval, Tok.cells, qC, partC, List.take, List.drop, enumO]
     have hil := isT_ltN k1
     refine QEx.at (k := 0) (form_q l m i _ n _ hl (by omega) h3 (by omega) (fun_q l m f i n hl hP hR (isT_ltN k1) (by omega) h3 h4)) ?_ rfl (by first | omega | (simp only; omega)) ?_
     · exact ⟨.ptr rfl, .v _, .mth ⟨.ptr rfl, trivial⟩, trivial⟩
     intro p hp
     simp only [partC, putO, Nat.reduceEqDiff, ↓reduceIte]
     try simp only [bS, bA, thenQ, blockQ, noGotoQ]
     refine q0 _ ?_
     clear q0 Q0
     simp only [go_sem]
     simp only [↓bO, go_sem, seval, Tok.cells, qC, partC, List.take, List.drop, enumO]
     refine y1 _ ?_
     try clear y1 Y1
     refine AWp_ret ?_
     try simp only [thenQ, blockQ, noGotoQ, retQ, aRes, tupOf, bS, bA, aLoad, getO, pack, bL, Nat.reduceAdd, Nat.reduceLeDiff, Nat.reduceEqDiff, ↓reduceIte, ti102, tyX, Tok.cells, List.length_map, qC, partC, List.take, List.drop, enumO]
     refine ⟨_, _, ⟨p, ?_, rfl, rfl⟩, .data (.agg (partC_data _)), qUnd (by omega) _ _ _ _, ?_, ?_, by omega⟩
     · exact hp
     · exact Le.refl _
     · first | exact ⟨0, rfl, rfl⟩ | exact ⟨1, rfl, rfl⟩ | exact ⟨2, rfl, rfl⟩ | exact ⟨3, rfl, rfl⟩ | exact ⟨4, rfl, rfl⟩ | exact ⟨5, rfl, rfl⟩ | exact ⟨6, rfl, rfl⟩ | exact ⟨7, rfl, rfl⟩ | exact ⟨8, rfl, rfl⟩ | exact ⟨9, rfl, rfl⟩
    ·
     have k1 : isT l (i : Int) 3 bFun = false := hb21
     simp only [k1, Bool.false_eq_true, if_false]
     refine AWp_seqK fun Y1 y1 => ?_
     refine AWp_region ?_
     iterate 3 (refine aops_chunk 1 fun Q0 q0 => ?_; simp only [↓bO, go_sem, seval, Tok.cells, qC, partC, List.take, List.drop, enumO]; refine q0 _ ?_; clear q0 Q0; simp only [go_sem])
     refine aops_chunk 1 fun Q0 q0 => ?_
     simp only [↓bO, go_sem, seval, Tok.cells, qC, partC, List.take, List.drop, enumO]
     refine QCalls.at (k := 0) (take_q l m i 0 3 bLet hl) ?_ (.v _) rfl (by first | omega | (simp only; omega)) ?_
     · exact ⟨.ptr rfl, .v _, .v _, trivial⟩
     simp only [putO, Nat.reduceEqDiff, ↓reduceIte]
     try simp only [bS, bA, thenQ, blockQ, noGotoQ]
     refine q0 _ ?_
     clear q0 Q0
     simp only [go_sem]
     simp only [↓bO, go_sem, seval, Tok.cells, qC, partC, List.take, List.drop, enumO]
     refine y1 _ ?_
     try clear y1 Y1
     refine AWp_cond rfl (fun hb31 => ?_) (fun hb31 => ?_)
     ·
      have k2 : isT l (i : Int) 3 bLet = true := hb31
      simp only [k2, if_true]
      obtain rfl := hr.symm.trans (ex_let hdm k1 k2)
      refine AWp_seqK fun Y1 y1 => ?_
      refine AWp_region ?_
      iterate 4 (refine aops_chunk 1 fun Q0 q0 => ?_; simp only [↓bO, go_sem, seval, Tok.cells, qC, partC, List.take, List.drop, enumO]; refine q0 _ ?_; clear q0 Q0; simp only [go_sem])
      refine aops_chunk 1 fun Q0 q0 => ?_
      simp only [↓bO, go_sem, seval, Tok.cells, qC, partC, List.take, List.drop, enumO]
      have hil := isT_ltN k2
      refine QEx.at (k := 0) (form_q l m i _ n _ hl (by omega) h3 (by omega) (let_q l m f i n hl hP hR (isT_ltN k2) (by omega) h3 h4)) ?_ rfl (by first | omega | (simp only; omega)) ?_
      · exact ⟨.ptr rfl, .v _, .mth ⟨.ptr rfl, trivial⟩, trivial⟩
      intro p hp
      simp only [partC, putO, Nat.reduceEqDiff, ↓reduceIte]
      try simp only [bS, bA, thenQ, blockQ, noGotoQ]
      refine q0 _ ?_
      clear q0 Q0
      simp only [go_sem]
      simp only [↓bO, go_sem, seval, Tok.cells, qC, partC, List.take, List.drop, enumO]
      refine y1 _ ?_
      try clear y1 Y1
      refine AWp_ret ?_
      try simp only [thenQ, blockQ, noGotoQ, retQ, aRes, tupOf, bS, bA, aLoad, getO, pack, bL, Nat.reduceAdd, Nat.reduceLeDiff, Nat.reduceEqDiff, ↓reduceIte, ti102, tyX, Tok.cells, List.length_map, qC, partC, List.take, List.drop, enumO]
      refine ⟨_, _, ⟨p, ?_, rfl, rfl⟩, .data (.agg (partC_data _)), qUnd (by omega) _ _ _ _, ?_, ?_, by omega⟩
      · exact hp
      · exact Le.refl _
      · first | exact ⟨0, rfl, rfl⟩ | exact ⟨1, rfl, rfl⟩ | exact ⟨2, rfl, rfl⟩ | exact ⟨3, rfl, rfl⟩ | exact ⟨4, rfl, rfl⟩ | exact ⟨5, rfl, rfl⟩ | exact ⟨6, rfl, rfl⟩ | exact ⟨7, rfl, rfl⟩ | exact ⟨8, rfl, rfl⟩ | exact ⟨9, rfl, rfl⟩
     ·
      have k2 : isT l (i : Int) 3 bLet = false := hb31
      simp only [k2, Bool.false_eq_true, if_false]
      refine AWp_seqK fun Y1 y1 => ?_
      refine AWp_region ?_
      iterate 3 (refine aops_chunk 1 fun Q0 q0 => ?_; simp only [↓bO, go_sem, seval, Tok.cells, qC, partC, List.take, List.drop, enumO]; refine q0 _ ?_; clear q0 Q0; simp only [go_sem])
      refine aops_chunk 1 fun Q0 q0 => ?_
      simp only [↓bO, go_sem, seval, Tok.cells, qC, partC, List.take, List.drop, enumO]
      refine QCalls.at (k := 0) (take_q l m i 0 3 bIf hl) ?_ (.v _) rfl (by first | omega | (simp only; omega)) ?_
      · exact ⟨.ptr rfl, .v _, .v _, trivial⟩
      simp only [putO, Nat.reduceEqDiff, ↓reduceIte]
      try simp only [bS, bA, thenQ, blockQ, noGotoQ]
      refine q0 _ ?_
      clear q0 Q0
      simp only [go_sem]
      simp only [↓bO, go_sem, seval, Tok.cells, qC, partC, List.take, List.drop, enumO]
      refine y1 _ ?_
      try clear y1 Y1
      refine AWp_cond rfl (fun hb41 => ?_) (fun hb41 => ?_)
      ·
       have k3 : isT l (i : Int) 3 bIf = true := hb41
       simp only [k3, if_true]
       obtain rfl := hr.symm.trans (ex_if hdm k1 k2 k3)
       refine AWp_seqK fun Y1 y1 => ?_
       refine AWp_region ?_
       iterate 4 (refine aops_chunk 1 fun Q0 q0 => ?_; simp only [↓bO, go_sem, seval, Tok.cells, qC, partC, List.take, List.drop, enumO]; refine q0 _ ?_; clear q0 Q0; simp only [go_sem])
       refine aops_chunk 1 fun Q0 q0 => ?_
       simp only [↓bO, go_sem, seval, Tok.cells, qC, partC, List.take, List.drop, enumO]
       have hil := isT_ltN k3
       refine QEx.at (k := 0) (form_q l m i _ n _ hl (by omega) h3 (by omega) (choice_q l m f i n hl hP hR (isT_ltN k3) (by omega) h3 h4)) ?_ rfl (by first | omega | (simp only; omega)) ?_
       · exact ⟨.ptr rfl, .v _, .mth ⟨.ptr rfl, trivial⟩, trivial⟩
       intro p hp
       simp only [partC, putO, Nat.reduceEqDiff, ↓reduceIte]
       try simp only [bS, bA, thenQ, blockQ, noGotoQ]
       refine q0 _ ?_
       clear q0 Q0
       simp only [go_sem]
       simp only [↓bO, go_sem, seval, Tok.cells, qC, partC, List.take, List.drop, enumO]
       refine y1 _ ?_
       try clear y1 Y1
       refine AWp_ret ?_
       try simp only [thenQ, blockQ, noGotoQ, retQ, aRes, tupOf, bS, bA, aLoad, getO, pack, bL, Nat.reduceAdd, Nat.reduceLeDiff, Nat.reduceEqDiff, ↓reduceIte, ti102, tyX, Tok.cells, List.length_map, qC, partC, List.take, List.drop, enumO]
       refine ⟨_, _, ⟨p, ?_, rfl, rfl⟩, .data (.agg (partC_data _)), qUnd (by omega) _ _ _ _, ?_, ?_, by omega⟩
       · exact hp
       · exact Le.refl _
       · first | exact ⟨0, rfl, rfl⟩ | exact ⟨1, rfl, rfl⟩ | exact ⟨2, rfl, rfl⟩ | exact ⟨3, rfl, rfl⟩ | exact ⟨4, rfl, rfl⟩ | exact ⟨5, rfl, rfl⟩ | exact ⟨6, rfl, rfl⟩ | exact ⟨7, rfl, rfl⟩ | exact ⟨8, rfl, rfl⟩ | exact ⟨9, rfl, rfl⟩
      ·
       have k3 : isT l (i : Int) 3 bIf = false := hb41
       simp only [k3, Bool.false_eq_true, if_false]
       obtain rfl := hr.symm.trans (ex_app hdm k1 k2 k3)
       refine AWp_skip ?_
       try simp only [thenQ, blockQ, noGotoQ]
       refine y0 _ ?_
       try clear y0 Y0
       refine AWp_seqK fun Y0 y0 => ?_
       refine AWp_region ?_
       iterate 2 (refine aops_chunk 1 fun Q0 q0 => ?_; simp only [↓bO, go_sem, seval, Tok.cells, qC, partC, List.take, List.drop, enumO]; refine q0 _ ?_; clear q0 Q0; simp only [go_sem])
       refine aops_chunk 1 fun Q0 q0 => ?_
       simp only [↓bO, go_sem, seval, Tok.cells, qC, partC, List.take, List.drop, enumO]
       refine QEx.at (k := 0) (app_q l m f i n hl hA (fun j k hj => hR j k hj) hi (by omega) h3 h4) ?_ rfl (by first | omega | (simp only; omega)) ?_
       · exact ⟨.ptr rfl, .v _, trivial⟩
       intro p hp
       simp only [partC, putO, Nat.reduceEqDiff, ↓reduceIte]
       try simp only [bS, bA, thenQ, blockQ, noGotoQ]
       refine q0 _ ?_
       clear q0 Q0
       simp only [go_sem]
       simp only [↓bO, go_sem, seval, Tok.cells, qC, partC, List.take, List.drop, enumO]
       refine y0 _ ?_
       try clear y0 Y0
       refine AWp_ret ?_
       try simp only [thenQ, blockQ, noGotoQ, retQ, aRes, tupOf, bS, bA, aLoad, getO, pack, bL, Nat.reduceAdd, Nat.reduceLeDiff, Nat.reduceEqDiff, ↓reduceIte, ti102, tyX, Tok.cells, List.length_map, qC, partC, List.take, List.drop, enumO]
       refine ⟨_, _, ⟨p, ?_, rfl, rfl⟩, .data (.agg (partC_data _)), qUnd (by omega) _ _ _ _, ?_, ?_, by omega⟩
       · exact hp
       · exact Le.refl _
       · first | exact ⟨0, rfl, rfl⟩ | exact ⟨1, rfl, rfl⟩ | exact ⟨2, rfl, rfl⟩ | exact ⟨3, rfl, rfl⟩ | exact ⟨4, rfl, rfl⟩ | exact ⟨5, rfl, rfl⟩ | exact ⟨6, rfl, rfl⟩ | exact ⟨7, rfl, rfl⟩ | exact ⟨8, rfl, rfl⟩ | exact ⟨9, rfl, rfl⟩
theorem px_step {l : List Tok} {m : Int} {f : Nat} (hl : l.length ≤ 1048576) (hP : PxOk l m f) (hA : AtOk l m f) : PxOk l m (f + 1) := fun i n e h1 h2 h3 h4 => px_one l m f i n e hl hP hA (rx_ok l m f) h1 h2 h3 h4
theorem an_g (l : List Tok) (m : Int) (j : Nat) (n : Int) (hj : j < l.length) : ∃ (T : Ty) (k : Nat) (e : Int), rdF l m ((j + 1 : Nat) : Int) (n + 2) = (T, (k : Int), e) ∧ j + 1 ≤ k ∧ k ≤ l.length := by
  have h1 := rd_mono l m (l.length + 1) none ((j + 1 : Nat) : Int) (n + 2)
  have h2 := rd_le l m (l.length + 1) none ((j + 1 : Nat) : Int) (n + 2)
  generalize hP : rdF l m ((j + 1 : Nat) : Int) (n + 2) = P
  rw [show rd l m (l.length + 1) none ((j + 1 : Nat) : Int) (n + 2) = P from hP] at h1 h2
  obtain ⟨T, k, e⟩ := P
  refine ⟨T, k.toNat, e, ?_, ?_, ?_⟩
  · rw [Int.toNat_of_nonneg (by have := h1.1; simp only at this; omega)]
  · have := h1.1
    simp only at this
    omega
  · simp only at h2
    omega
theorem anR_eq {l : List Tok} {m : Int} {j : Nat} {n : Int} {T : Ty} {k : Nat} {e : Int} (h : rdF l m ((j + 1 : Nat) : Int) (n + 2) = (T, (k : Int), e)) (i0 : Nat) (t : Tm) :
    anR l m i0 n t j = if e = 0 then (if isT l (k : Int) 4 bClo = true then ⟨.mk 10 ByteArray.empty 0 T [t] (spJ (sp l i0) (sp l k)).1 (spJ (sp l i0) (sp l k)).2, (spJ (sp l i0) (sp l k)).1, (spJ (sp l i0) (sp l k)).2, k + 1, 0⟩ else wr k 3) else wr k e := by
  unfold anR
  rw [show ((j : Int) + 1) = ((j + 1 : Nat) : Int) by omega, h]
  simp only [Int.toNat_natCast]
def anP (T : Ty) (t : Tm) (J : Int × Int) : Pt := (.mk 10 ByteArray.empty 0 T [t] J.1 J.2, J)
theorem anP_cells (T : Ty) (t : Tm) (J : Int × Int) : partC (anP T t J) = [.v (.int .i64 10), .v (.string ByteArray.empty), .v (.int .i64 0), .v (.int .i64 T.k), .v (.int .i64 T.n), .sl 3 (T.ps.map Ty.cells), .sl 9 [[.v (.int .i64 t.k), .v (.string t.s), .v (.int .i64 t.n), .v (.int .i64 t.t.k), .v (.int .i64 t.t.n), .sl 3 (t.t.ps.map Ty.cells), .sl 9 (t.ps.map Tm.cells), .v (.int .i64 t.a), .v (.int .i64 t.b)]], .v (.int .i64 J.1), .v (.int .i64 J.2), .v (.int .i64 J.1), .v (.int .i64 J.2)] := by
  rw [← t.cells_eq]
  rfl
theorem typed_q (l : List Tok) (m : Int) (i0 j : Nat) (n : Int) (p : Pt) (hl : l.length ≤ 100000) (hj : j < l.length) (h3 : -1000000 ≤ n) (h4 : n ≤ 700000) : QEx 121 [.ptr 0 0, .agg (partC p), .v (.int .i64 (n + 2)), .agg [.v (.int .i64 (sp l i0).1), .v (.int .i64 (sp l i0).2)]] l m (j + 1) (0) (anR l m i0 n p.1 j) := by
  generalize hr : anR l m i0 n p.1 j = r
  obtain ⟨T, k, e, hP, k1, k2⟩ := an_g l m j n hj
  rw [anR_eq hP] at hr
  obtain ⟨j2, d2, hW, hw⟩ := want_g l m k 0 4 bClo (by omega)
  have hlf := lft_le (l := l) (i := ((j + 1 : Nat) : Int)) (j := ((j + 1 : Nat) : Int)) (by omega)
  refine ACalls.clean (C := EXC l m r) ?_
  refine ACalls_intro Tryd.func121 (by kernel_rfl) rfl (by rw [Tryd.ntmps121]; simp) (fun hm => ?_)
  simp only [Tryd.ntmps121, Tryd.results121, List.length_cons, List.length_nil, Nat.reduceAdd, Nat.reduceSub, List.replicate_succ, List.replicate_zero, List.cons_append, List.nil_append]
  refine AWp_seqK fun Y0 y0 => ?_
  refine AWp_region ?_
  iterate 2 (refine aops_chunk 1 fun Q0 q0 => ?_; simp only [↓bO, go_sem, seval, Tok.cells, qC, partC, List.take, List.drop, enumO, Ty.cells_eq T]; refine q0 _ ?_; clear q0 Q0; simp only [go_sem])
  simp only [↓bO, go_sem, seval, Tok.cells, qC, partC, List.take, List.drop, enumO, Ty.cells_eq T]
  refine y0 _ ?_
  try clear y0 Y0
  refine AWp_seqK fun Y0 y0 => ?_
  refine AWp_drawKF 21 [18, 19] mixed (by kernel_rfl) (fun _ _ h => h) fun J0 j0 => ?_
  iterate 15 (simp only [go_sem]; refine dRun_chunk 1 fun Q0 q0 => ?_; simp only [↓dRun, ↓dOp, ↓bO, go_sem, seval, Tok.cells, qC, partC, List.take, List.drop, enumO, Ty.cells_eq T]; refine q0 _ ?_; clear q0 Q0)
  simp only [go_sem]
  refine dRun_chunk 1 fun Q0 q0 => ?_
  simp only [↓dRun, ↓dOp, ↓bO, go_sem, seval, Tok.cells, qC, partC, List.take, List.drop, enumO, Ty.cells_eq T]
  refine ⟨_, (hP ▸ Read_pure l m ((j + 1 : Nat) : Int) (n + 2) (by omega) (by omega) (by omega)), ?_⟩
  try simp only [bS, bA, thenQ, blockQ, noGotoQ]
  iterate 4 (refine q0 _ ?_; clear q0 Q0; simp only [go_sem]; refine dRun_chunk 1 fun Q0 q0 => ?_; simp only [↓dRun, ↓dOp, ↓bO, go_sem, seval, Tok.cells, qC, partC, List.take, List.drop, enumO, Ty.cells_eq T])
  refine q0 _ ?_
  clear q0 Q0
  simp only [go_sem]
  simp only [↓dRun, ↓dOp, ↓bO, go_sem, seval, Tok.cells, qC, partC, List.take, List.drop, enumO, Ty.cells_eq T]
  refine j0 _ ?_
  clear j0 J0
  iterate 2 (simp only [go_sem]; refine aops_chunk 1 fun Q0 q0 => ?_; simp only [↓bO, go_sem, seval, Tok.cells, qC, partC, List.take, List.drop, enumO, Ty.cells_eq T]; refine q0 _ ?_; clear q0 Q0)
  simp only [go_sem]
  simp only [↓bO, go_sem, seval, Tok.cells, qC, partC, List.take, List.drop, enumO, Ty.cells_eq T]
  refine y0 _ ?_
  try clear y0 Y0
  refine AWp_seqK fun Y0 y0 => ?_
  refine AWp_seqK fun Y1 y1 => ?_
  refine AWp_region ?_
  refine aops_chunk 1 fun Q0 q0 => ?_
  simp only [↓bO, go_sem, seval, Tok.cells, qC, partC, List.take, List.drop, enumO, Ty.cells_eq T]
  refine q0 _ ?_
  clear q0 Q0
  simp only [go_sem]
  simp only [↓bO, go_sem, seval, Tok.cells, qC, partC, List.take, List.drop, enumO, Ty.cells_eq T]
  refine y1 _ ?_
  try clear y1 Y1
  refine AWp_cond rfl (fun hb35 => ?_) (fun hb35 => ?_)
  ·
   have he : ¬ e = 0 := by simpa using hb35
   rw [if_neg he] at hr
   subst hr
   refine AWp_seqK fun Y1 y1 => ?_
   refine AWp_region ?_
   iterate 5 (refine aops_chunk 1 fun Q0 q0 => ?_; simp only [↓bO, go_sem, seval, Tok.cells, qC, partC, List.take, List.drop, enumO, Ty.cells_eq T]; refine q0 _ ?_; clear q0 Q0; simp only [go_sem])
   simp only [↓bO, go_sem, seval, Tok.cells, qC, partC, List.take, List.drop, enumO, Ty.cells_eq T]
   refine y1 _ ?_
   try clear y1 Y1
   refine AWp_seqK fun Y1 y1 => ?_
   refine AWp_region ?_
   iterate 2 (refine aops_chunk 1 fun Q0 q0 => ?_; simp only [↓bO, go_sem, seval, Tok.cells, qC, partC, List.take, List.drop, enumO, Ty.cells_eq T]; refine q0 _ ?_; clear q0 Q0; simp only [go_sem])
   simp only [↓bO, go_sem, seval, Tok.cells, qC, partC, List.take, List.drop, enumO, Ty.cells_eq T]
   refine QCalls.at (k := 0) (fail_q l m k 0 e) ?_ (.tup .nil) rfl (by first | omega | (simp only; omega)) ?_
   · exact ⟨.ptr rfl, .v _, trivial⟩
   simp only [putO, Nat.reduceEqDiff, ↓reduceIte]
   try simp only [bS, bA, thenQ, blockQ, noGotoQ]
   refine y1 _ ?_
   try clear y1 Y1
   refine AWp_seqK fun Y1 y1 => ?_
   refine AWp_region ?_
   refine aops_chunk 1 fun Q0 q0 => ?_
   simp only [↓bO, go_sem, seval, Tok.cells, qC, partC, List.take, List.drop, enumO, Ty.cells_eq T]
   refine q0 _ ?_
   clear q0 Q0
   simp only [go_sem]
   simp only [↓bO, go_sem, seval, Tok.cells, qC, partC, List.take, List.drop, enumO, Ty.cells_eq T]
   refine y1 _ ?_
   try clear y1 Y1
   refine AWp_ret ?_
   try simp only [thenQ, blockQ, noGotoQ, retQ, aRes, tupOf, bS, bA, aLoad, getO, pack, bL, Nat.reduceAdd, Nat.reduceLeDiff, Nat.reduceEqDiff, ↓reduceIte, ti102, tyX, Tok.cells, List.length_map, qC, partC, List.take, List.drop, enumO, Ty.cells_eq T]
   refine ⟨_, _, ⟨zPt, ?_, rfl, rfl⟩, .data (.agg (partC_data _)), qUnd (by omega) _ _ _ _, ?_, ?_, by omega⟩
   · exact fun h => absurd h he
   · exact zPt_le
   · first | exact ⟨0, rfl, rfl⟩ | exact ⟨1, rfl, rfl⟩ | exact ⟨2, rfl, rfl⟩ | exact ⟨3, rfl, rfl⟩ | exact ⟨4, rfl, rfl⟩ | exact ⟨5, rfl, rfl⟩ | exact ⟨6, rfl, rfl⟩ | exact ⟨7, rfl, rfl⟩ | exact ⟨8, rfl, rfl⟩ | exact ⟨9, rfl, rfl⟩
  ·
   have he : e = 0 := by simpa using hb35
   subst he
   rw [if_pos rfl] at hr
   refine AWp_skip ?_
   try simp only [thenQ, blockQ, noGotoQ]
   refine y0 _ ?_
   try clear y0 Y0
   refine AWp_seqK fun Y0 y0 => ?_
   refine AWp_region ?_
   iterate 5 (refine aops_chunk 1 fun Q0 q0 => ?_; simp only [↓bO, go_sem, seval, Tok.cells, qC, partC, List.take, List.drop, enumO, Ty.cells_eq T]; refine q0 _ ?_; clear q0 Q0; simp only [go_sem])
   simp only [↓bO, go_sem, seval, Tok.cells, qC, partC, List.take, List.drop, enumO, Ty.cells_eq T]
   refine y0 _ ?_
   try clear y0 Y0
   refine AWp_seqK fun Y0 y0 => ?_
   refine AWp_region ?_
   iterate 3 (refine aops_chunk 1 fun Q0 q0 => ?_; simp only [↓bO, go_sem, seval, Tok.cells, qC, partC, List.take, List.drop, enumO, Ty.cells_eq T]; refine q0 _ ?_; clear q0 Q0; simp only [go_sem])
   refine aops_chunk 1 fun Q0 q0 => ?_
   simp only [↓bO, go_sem, seval, Tok.cells, qC, partC, List.take, List.drop, enumO, Ty.cells_eq T]
   refine QCalls.at (k := 0) (here_q l m k 0 (by omega)) ?_ (.agg (.cons (.v _) (.cons (.v _) .nil))) rfl (by first | omega | (simp only; omega)) ?_
   · exact ⟨.ptr rfl, trivial⟩
   simp only [putO, Nat.reduceEqDiff, ↓reduceIte]
   try simp only [bS, bA, thenQ, blockQ, noGotoQ]
   refine q0 _ ?_
   clear q0 Q0
   simp only [go_sem]
   refine aops_chunk 1 fun Q0 q0 => ?_
   simp only [↓bO, go_sem, seval, Tok.cells, qC, partC, List.take, List.drop, enumO, Ty.cells_eq T]
   refine q0 _ ?_
   clear q0 Q0
   simp only [go_sem]
   simp only [↓bO, go_sem, seval, Tok.cells, qC, partC, List.take, List.drop, enumO, Ty.cells_eq T]
   refine y0 _ ?_
   try clear y0 Y0
   refine AWp_seqK fun Y0 y0 => ?_
   refine AWp_region ?_
   refine aops_chunk 1 fun Q0 q0 => ?_
   simp only [↓bO, go_sem, seval, Tok.cells, qC, partC, List.take, List.drop, enumO, Ty.cells_eq T]
   refine q0 _ ?_
   clear q0 Q0
   simp only [go_sem]
   simp only [↓bO, go_sem, seval, Tok.cells, qC, partC, List.take, List.drop, enumO, Ty.cells_eq T]
   refine QCalls.at (k := 0) hW ?_ (.tup .nil) rfl (by first | omega | (simp only; omega)) ?_
   · exact ⟨.ptr rfl, .v _, .v _, trivial⟩
   simp only [putO, Nat.reduceEqDiff, ↓reduceIte]
   try simp only [bS, bA, thenQ, blockQ, noGotoQ]
   refine y0 _ ?_
   try clear y0 Y0
   refine AWp_seqK fun Y0 y0 => ?_
   refine AWp_drawK 9 mixed (by kernel_rfl) fun J0 j0 => ?_
   iterate 3 (simp only [go_sem]; refine dRun_chunk 1 fun Q0 q0 => ?_; simp only [↓dRun, ↓dOp, ↓bO, go_sem, seval, Tok.cells, qC, partC, List.take, List.drop, enumO, Ty.cells_eq T]; refine q0 _ ?_; clear q0 Q0)
   simp only [go_sem]
   refine dRun_chunk 1 fun Q0 q0 => ?_
   simp only [↓dRun, ↓dOp, ↓bO, go_sem, seval, ↓bs1_1, ↓bs1_2, ↓bs1_3, ↓bs1_4, ↓bs1_5, ↓bs1_6, ↓bs1_7, ↓bs1_8, ↓bs1_9, ↓bs1_10, ↓bs1_11, ↓bs1_12, Tok.cells, qC, partC, List.take, List.drop, enumO, Ty.cells_eq T]
   iterate 3 (refine q0 _ ?_; clear q0 Q0; simp only [go_sem]; refine dRun_chunk 1 fun Q0 q0 => ?_; simp only [↓dRun, ↓dOp, ↓bO, go_sem, seval, Tok.cells, qC, partC, List.take, List.drop, enumO, Ty.cells_eq T])
   refine ⟨_, SpJoin_pure (sp l i0) (sp l k), ?_⟩
   try simp only [bS, bA, thenQ, blockQ, noGotoQ]
   refine q0 _ ?_
   clear q0 Q0
   simp only [go_sem]
   refine dRun_chunk 1 fun Q0 q0 => ?_
   simp only [↓dRun, ↓dOp, ↓bO, go_sem, seval, Tok.cells, qC, partC, List.take, List.drop, enumO, Ty.cells_eq T]
   refine q0 _ ?_
   clear q0 Q0
   simp only [go_sem]
   simp only [↓dRun, ↓dOp, ↓bO, go_sem, seval, Tok.cells, qC, partC, List.take, List.drop, enumO, Ty.cells_eq T]
   refine j0 _ ?_
   clear j0 J0
   simp only [go_sem]
   simp only [↓bO, go_sem, seval, Tok.cells, qC, partC, List.take, List.drop, enumO, Ty.cells_eq T]
   refine y0 _ ?_
   try clear y0 Y0
   refine AWp_seqK fun Y0 y0 => ?_
   refine AWp_region ?_
   iterate 4 (refine aops_chunk 1 fun Q0 q0 => ?_; simp only [↓bO, go_sem, seval, Tok.cells, qC, partC, List.take, List.drop, enumO, Ty.cells_eq T]; refine q0 _ ?_; clear q0 Q0; simp only [go_sem])
   simp only [↓bO, go_sem, seval, Tok.cells, qC, partC, List.take, List.drop, enumO, Ty.cells_eq T]
   refine y0 _ ?_
   try clear y0 Y0
   refine AWp_ret ?_
   try simp only [thenQ, blockQ, noGotoQ, retQ, aRes, tupOf, bS, bA, aLoad, getO, pack, bL, Nat.reduceAdd, Nat.reduceLeDiff, Nat.reduceEqDiff, ↓reduceIte, ti102, tyX, Tok.cells, List.length_map, qC, partC, List.take, List.drop, enumO, Ty.cells_eq T]
   have hrr : r.i = j2 ∧ r.e = d2 ∧ (r.e = 0 → anP T p.1 (spJ (sp l i0) (sp l k)) = (r.t, r.a, r.b)) := by
    rcases hw with ⟨_, a, b, c⟩ | ⟨_, a, b, c⟩ | ⟨a, _⟩
    ·
     rw [if_pos a] at hr
     subst hr b c
     exact ⟨rfl, rfl, fun _ => rfl⟩
    ·
     rw [if_neg (by rw [a]; simp)] at hr
     subst hr b c
     exact ⟨rfl, rfl, fun h => absurd (show (3 : Int) = 0 from h) (by decide)⟩
    · exact absurd rfl a
   obtain ⟨q1, q2, q3⟩ := hrr
   refine ⟨_, _, ⟨anP T p.1 (spJ (sp l i0) (sp l k)), ?_, rfl, rfl⟩, .data (.agg (partC_data _)), qUnd (by omega) _ _ _ _, ?_, ?_, by omega⟩
   · exact q3
   ·
    rw [anP_cells]
    exact Le.refl _
   ·
    rw [q1, q2]
    first | exact ⟨0, rfl, rfl⟩ | exact ⟨1, rfl, rfl⟩ | exact ⟨2, rfl, rfl⟩ | exact ⟨3, rfl, rfl⟩ | exact ⟨4, rfl, rfl⟩ | exact ⟨5, rfl, rfl⟩ | exact ⟨6, rfl, rfl⟩ | exact ⟨7, rfl, rfl⟩ | exact ⟨8, rfl, rfl⟩ | exact ⟨9, rfl, rfl⟩
theorem SpJoin4 (a b c d : Int) : APure Tryd.prog 93 [.agg [.v (.int .i64 a), .v (.int .i64 b)], .agg [.v (.int .i64 c), .v (.int .i64 d)]] (.agg [.v (.int .i64 (spJ (a, b) (c, d)).1), .v (.int .i64 (spJ (a, b) (c, d)).2)]) := SpJoin_pure (a, b) (c, d)
theorem PxOk.zero {l : List Tok} {m : Int} {f : Nat} (h : PxOk l m f) {i : Nat} {n : Int} (h1 : l.length - i < f) (h2 : i ≤ l.length) (h3 : -1000000 ≤ n) (h4 : n + (l.length - i : Nat) ≤ 700000) : QEx 64 [.ptr 0 0, .v (.int .i64 n)] l m i 0 (rx l m f i n) := by
  have h9 := h i n 0 (fun _ => h1) h2 h3 h4
  rwa [show exS (rx l m f) i n 0 = rx l m f i n from if_pos rfl] at h9
structure TS where
  ps : List Tm
  i : Nat
  e : Int
  x : Int × Int
def TpI (E : Nat → Int → Rdx) (l : List Tok) (n : Int) (i0 : Nat) (r : Rdx) (s : TS) : Prop := 1 ≤ s.ps.length ∧ s.ps.length ≤ 8 ∧ s.i ≤ l.length ∧ i0 + 1 ≤ s.i ∧ (s.e = 0 → ∃ F, l.length - s.i < F ∧ r = tpR E l i0 n F s.ps s.i) ∧ (¬ s.e = 0 → r.i = s.i ∧ r.e = s.e)
section
variable {E : Nat → Int → Rdx} {l : List Tok} {m n : Int} {i0 : Nat} {r : Rdx} {s : TS}
theorem TpI.start (hE : EOk E l) (hi : i0 < l.length) {p : Pt} (hp : (E (i0 + 1) (n + 1)).e = 0 → p = ((E (i0 + 1) (n + 1)).t, (E (i0 + 1) (n + 1)).a, (E (i0 + 1) (n + 1)).b)) (hc : (E (i0 + 1) (n + 1)).e = 0 → isT l ((E (i0 + 1) (n + 1)).i : Int) 4 bCol = false) (x : Int × Int) :
    TpI E l n i0 (brR E l m i0 n) ⟨[p.1], (E (i0 + 1) (n + 1)).i, (E (i0 + 1) (n + 1)).e, x⟩ := by
  have h9 := hE (i0 + 1) (n + 1) (by omega)
  refine ⟨Nat.le_refl 1, by show 1 ≤ 8; omega, h9.2.1, h9.1, fun he => ⟨l.length + 1, by show l.length - _ < l.length + 1; omega, ?_⟩, fun he => ?_⟩
  · have he' : (E (i0 + 1) (n + 1)).e = 0 := he
    unfold brR
    rw [if_pos he', if_neg (by rw [hc he']; simp), hp he']
  · have he' : ¬ (E (i0 + 1) (n + 1)).e = 0 := he
    unfold brR
    rw [if_neg he']
    exact ⟨rfl, rfl⟩
theorem TpI.fuel (h : TpI E l n i0 r s) (he : s.e = 0) : ∃ G, r = tpR E l i0 n (G + 1) s.ps s.i ∧ l.length - s.i ≤ G := by
  obtain ⟨F, h1, h2⟩ := h.2.2.2.2.1 he
  exact ⟨F - 1, by rw [show F - 1 + 1 = F by omega]; exact h2, by omega⟩
theorem TpI.bad (h : TpI E l n i0 r s) (he : s.e = 0) (h1 : isT l (s.i : Int) 4 bClo = false) (h2 : isT l (s.i : Int) 4 bCom = false) (x : Int × Int) : TpI E l n i0 r ⟨s.ps, s.i, 3, x⟩ := by
  obtain ⟨G, hG, _⟩ := h.fuel he
  refine ⟨h.1, h.2.1, h.2.2.1, h.2.2.2.1, fun h9 => absurd (show (3 : Int) = 0 from h9) (by decide), fun _ => ?_⟩
  rw [hG]
  unfold tpR
  rw [if_neg (by rw [h2]; simp), if_neg (by rw [h1]; simp)]
  exact ⟨rfl, rfl⟩
theorem TpI.many (h : TpI E l n i0 r s) (he : s.e = 0) (h2 : isT l (s.i : Int) 4 bCom = true) (h3 : s.ps.length = 8) (x : Int × Int) : TpI E l n i0 r ⟨s.ps, s.i, 6, x⟩ := by
  obtain ⟨G, hG, _⟩ := h.fuel he
  refine ⟨h.1, h.2.1, h.2.2.1, h.2.2.2.1, fun h9 => absurd (show (6 : Int) = 0 from h9) (by decide), fun _ => ?_⟩
  rw [hG]
  unfold tpR
  rw [if_pos h2, if_pos (by omega)]
  exact ⟨rfl, rfl⟩
theorem TpI.next (h : TpI E l n i0 r s) (hE : EOk E l) (he : s.e = 0) (h2 : isT l (s.i : Int) 4 bCom = true) (h3 : ¬ s.ps.length = 8) {q : Pt} (hq : (E (s.i + 1) (n + 1)).e = 0 → q = ((E (s.i + 1) (n + 1)).t, (E (s.i + 1) (n + 1)).a, (E (s.i + 1) (n + 1)).b)) (x : Int × Int) :
    TpI E l n i0 r ⟨s.ps ++ [q.1], (E (s.i + 1) (n + 1)).i, (E (s.i + 1) (n + 1)).e, x⟩ := by
  obtain ⟨G, hG, hl⟩ := h.fuel he
  have h8 := isT_ltN h2
  have h9 := hE (s.i + 1) (n + 1) (by omega)
  have h7 := h.2.1
  have h6 := h.2.2.2.1
  have h5 := h9.1
  refine ⟨?_, ?_, h9.2.1, by show i0 + 1 ≤ (E (s.i + 1) (n + 1)).i; omega, fun h10 => ⟨G, by show l.length - (E (s.i + 1) (n + 1)).i < G; omega, ?_⟩, fun h10 => ?_⟩
  · show 1 ≤ (s.ps ++ [q.1]).length
    rw [List.length_append]
    exact Nat.le_add_left 1 _
  · show (s.ps ++ [q.1]).length ≤ 8
    rw [List.length_append]
    show s.ps.length + 1 ≤ 8
    omega
  · have h11 : (E (s.i + 1) (n + 1)).e = 0 := h10
    rw [hG]
    conv => lhs; unfold tpR
    rw [if_pos h2, if_neg (by omega), if_pos h11, hq h11]
  · have h11 : ¬ (E (s.i + 1) (n + 1)).e = 0 := h10
    rw [hG]
    unfold tpR
    rw [if_pos h2, if_neg (by omega), if_neg h11]
    exact ⟨rfl, rfl⟩
theorem isT_two {i : Int} {k : Int} {s s' : ByteArray} (h : isT l i k s = true) (hs : ¬ s = s') : isT l i k s' = false := by
  cases h2 : isT l i k s' with
  | false => rfl
  | true =>
    have hl := isT_lt h
    obtain ⟨t, ht⟩ : ∃ t, l[i.toNat]? = some t := ⟨_, List.getElem?_eq_getElem (by omega)⟩
    by_cases hk : t.k = k
    · rw [isT_yes hl.1 ht hk] at h h2
      exact absurd ((eqS_iff.1 h).symm.trans (eqS_iff.1 h2)) hs
    · rw [isT_no hl.1 ht hk] at h
      exact absurd h (by simp)
def tpP (ps : List Tm) (J : Int × Int) : Pt := match ps with
  | [t] => (t, J)
  | ps => (tm 9 ByteArray.empty 0 ps J, J)
theorem TpI.close (h : TpI E l n i0 r s) (he : s.e = 0) (h1 : isT l (s.i : Int) 4 bClo = true) : r.i = s.i + 1 ∧ r.e = 0 ∧ tpP s.ps (spJ (sp l i0) (sp l s.i)) = (r.t, r.a, r.b) := by
  obtain ⟨G, hG, _⟩ := h.fuel he
  rw [hG]
  unfold tpR tpP
  rw [if_neg (by rw [isT_two h1 (by decide)]; simp), if_pos h1]
  generalize s.ps = ps
  match ps with
  | [] => exact ⟨rfl, rfl, rfl⟩
  | [t] => exact ⟨rfl, rfl, rfl⟩
  | a :: b :: c => exact ⟨rfl, rfl, rfl⟩
end
theorem tpP_many {ps : List Tm} (h : ¬ ps.length = 1) (J : Int × Int) : tpP ps J = (tm 9 ByteArray.empty 0 ps J, J) := by
  match ps, h with
  | [], _ => rfl
  | [t], h => exact absurd rfl h
  | a :: b :: c, _ => rfl
theorem list_one {ps : List Tm} (h : ps.length = 1) : ∃ t, ps = [t] := by
  match ps, h with
  | [t], _ => exact ⟨t, rfl⟩
theorem br_typed {E : Nat → Int → Rdx} {l : List Tok} {m n : Int} {i : Nat} (h : (E (i + 1) (n + 1)).e = 0) (h2 : isT l ((E (i + 1) (n + 1)).i : Int) 4 bCol = true) : brR E l m i n = anR l m i n (E (i + 1) (n + 1)).t (E (i + 1) (n + 1)).i := by
  unfold brR
  rw [if_pos h, if_pos h2]
theorem inner_q (l : List Tok) (m : Int) (f i0 : Nat) (n : Int) (hl : l.length ≤ 100000) (hP : PxOk l m f) (hR : ROk l m f) (hi : i0 < l.length) (hf : l.length - i0 ≤ f) (h3 : -1000000 ≤ n) (h4 : n + (l.length - i0 : Nat) ≤ 700000) : QEx 110 [.ptr 0 0, .v (.int .i64 (n + 1)), .agg [.v (.int .i64 (sp l i0).1), .v (.int .i64 (sp l i0).2)]] l m (i0 + 1) (0) (brR (rx l m f) l m i0 n) := by
  generalize hbr : brR (rx l m f) l m i0 n = r
  have hx0 := hR (i0 + 1) (n + 1) (by omega)
  have hx1 := hx0.1
  have hx2 := hx0.2.1
  have hw : IntKind.i64.wrap (n + 1 + 1) = n + 2 := by (rw [wrap_in (by omega) (by omega)]; omega)
  refine ACalls.clean (C := EXC l m r) ?_
  refine ACalls_intro Tryd.func110 (by kernel_rfl) rfl (by rw [Tryd.ntmps110]; simp) (fun hm => ?_)
  simp only [Tryd.ntmps110, Tryd.results110, List.length_cons, List.length_nil, Nat.reduceAdd, Nat.reduceSub, List.replicate_succ, List.replicate_zero, List.cons_append, List.nil_append]
  refine AWp_seqK fun Y0 y0 => ?_
  refine AWp_region ?_
  refine aops_chunk 1 fun Q0 q0 => ?_
  simp only [↓bO, go_sem, seval, Tok.cells, qC, partC, List.take, List.drop, enumO, hw]
  refine q0 _ ?_
  clear q0 Q0
  simp only [go_sem]
  simp only [↓bO, go_sem, seval, Tok.cells, qC, partC, List.take, List.drop, enumO, hw]
  refine y0 _ ?_
  try clear y0 Y0
  refine AWp_scope ?_
  refine AWp_seqK fun Y0 y0 => ?_
  refine AWp_region ?_
  iterate 2 (refine aops_chunk 1 fun Q0 q0 => ?_; simp only [↓bO, go_sem, seval, Tok.cells, qC, partC, List.take, List.drop, enumO, hw]; refine q0 _ ?_; clear q0 Q0; simp only [go_sem])
  refine aops_chunk 1 fun Q0 q0 => ?_
  simp only [↓bO, go_sem, seval, Tok.cells, qC, partC, List.take, List.drop, enumO, hw]
  refine QEx.at (k := 0) (hP.zero (i := i0 + 1) (n := n + 1) (by omega) (by omega) (by omega) (by omega)) ?_ rfl (by first | omega | (simp only; omega)) ?_
  · exact ⟨.ptr rfl, .v _, trivial⟩
  intro p hp
  simp only [partC, putO, Nat.reduceEqDiff, ↓reduceIte]
  try simp only [bS, bA, thenQ, blockQ, noGotoQ]
  refine q0 _ ?_
  clear q0 Q0
  simp only [go_sem]
  refine aops_chunk 1 fun Q0 q0 => ?_
  simp only [↓bO, go_sem, seval, Tok.cells, qC, partC, List.take, List.drop, enumO, hw]
  refine q0 _ ?_
  clear q0 Q0
  simp only [go_sem]
  simp only [↓bO, go_sem, seval, Tok.cells, qC, partC, List.take, List.drop, enumO, hw]
  refine y0 _ ?_
  try clear y0 Y0
  refine AWp_seqK fun Y0 y0 => ?_
  refine AWp_seqK fun Y1 y1 => ?_
  refine AWp_region ?_
  iterate 6 (refine aops_chunk 1 fun Q0 q0 => ?_; simp only [↓bO, go_sem, seval, Tok.cells, qC, partC, List.take, List.drop, enumO, hw]; refine q0 _ ?_; clear q0 Q0; simp only [go_sem])
  refine aops_case 20 rfl (fun hc20 => ?_) (fun hc20 => ?_)
  ·
   simp only [List.set_cons_zero, List.set_cons_succ]
   have he0 : (rx l m f (i0 + 1) (n + 1)).e = 0 := by simpa using hc20
   iterate 3 (refine aops_chunk 1 fun Q0 q0 => ?_; simp only [↓bO, go_sem, seval, Tok.cells, qC, partC, List.take, List.drop, enumO, hw]; refine q0 _ ?_; clear q0 Q0; simp only [go_sem])
   refine aops_chunk 1 fun Q0 q0 => ?_
   simp only [↓bO, go_sem, seval, Tok.cells, qC, partC, List.take, List.drop, enumO, hw]
   refine QCalls.at (k := 0) (take_q l m (rx l m f (i0 + 1) (n + 1)).i (rx l m f (i0 + 1) (n + 1)).e 4 bCol (by omega)) ?_ (.v _) rfl (by first | omega | (simp only; omega)) ?_
   · exact ⟨.ptr rfl, .v _, .v _, trivial⟩
   simp only [putO, Nat.reduceEqDiff, ↓reduceIte]
   try simp only [bS, bA, thenQ, blockQ, noGotoQ]
   refine q0 _ ?_
   clear q0 Q0
   simp only [go_sem]
   simp only [↓bO, go_sem, seval, Tok.cells, qC, partC, List.take, List.drop, enumO, hw]
   refine y1 _ ?_
   try clear y1 Y1
   refine AWp_cond rfl (fun hb25 => ?_) (fun hb25 => ?_)
   ·
    have hcol : isT l ((rx l m f (i0 + 1) (n + 1)).i : Int) 4 bCol = true := by simpa using hb25
    simp only [hcol, if_true]
    refine AWp_seqK fun Y1 y1 => ?_
    refine AWp_region ?_
    iterate 5 (refine aops_chunk 1 fun Q0 q0 => ?_; simp only [↓bO, go_sem, seval, Tok.cells, qC, partC, List.take, List.drop, enumO, hw]; refine q0 _ ?_; clear q0 Q0; simp only [go_sem])
    refine aops_chunk 1 fun Q0 q0 => ?_
    simp only [↓bO, go_sem, seval, Tok.cells, qC, partC, List.take, List.drop, enumO, hw]
    refine QEx.at (k := 0) (show QEx 121 [.ptr 0 0, .agg (partC p), .v (.int .i64 (n + 2)), .agg [.v (.int .i64 (sp l i0).1), .v (.int .i64 (sp l i0).2)]] l m ((rx l m f (i0 + 1) (n + 1)).i + 1) (rx l m f (i0 + 1) (n + 1)).e (anR l m i0 n p.1 (rx l m f (i0 + 1) (n + 1)).i) from by rw [he0]; exact typed_q l m i0 _ n p hl (isT_ltN hcol) (by omega) (by omega)) ?_ rfl (by first | omega | (simp only; omega)) ?_
    · exact ⟨.ptr rfl, .data (.agg (partC_data p)), .v _, .data (.agg (.cons (.v _) (.cons (.v _) .nil))), trivial⟩
    intro q hq
    simp only [partC, putO, Nat.reduceEqDiff, ↓reduceIte]
    try simp only [bS, bA, thenQ, blockQ, noGotoQ]
    refine q0 _ ?_
    clear q0 Q0
    simp only [go_sem]
    simp only [↓bO, go_sem, seval, Tok.cells, qC, partC, List.take, List.drop, enumO, hw]
    refine y1 _ ?_
    try clear y1 Y1
    refine AWp_ret ?_
    try simp only [thenQ, blockQ, noGotoQ, retQ, aRes, tupOf, bS, bA, aLoad, getO, pack, bL, Nat.reduceAdd, Nat.reduceLeDiff, Nat.reduceEqDiff, ↓reduceIte, ti102, tyX, Tok.cells, List.length_map, qC, partC, List.take, List.drop, enumO, hw]
    have hra : anR l m i0 n p.1 (rx l m f (i0 + 1) (n + 1)).i = r := by
     rw [hp he0]
     exact (br_typed he0 hcol).symm.trans hbr
    subst hra
    refine ⟨_, _, ⟨q, ?_, rfl, rfl⟩, .data (.agg (partC_data _)), qUnd (by omega) _ _ _ _, ?_, ?_, by omega⟩
    · exact hq
    · exact Le.refl _
    · first | exact ⟨0, rfl, rfl⟩ | exact ⟨1, rfl, rfl⟩ | exact ⟨2, rfl, rfl⟩ | exact ⟨3, rfl, rfl⟩ | exact ⟨4, rfl, rfl⟩ | exact ⟨5, rfl, rfl⟩ | exact ⟨6, rfl, rfl⟩ | exact ⟨7, rfl, rfl⟩ | exact ⟨8, rfl, rfl⟩ | exact ⟨9, rfl, rfl⟩
   ·
    have hcol : isT l ((rx l m f (i0 + 1) (n + 1)).i : Int) 4 bCol = false := by simpa using hb25
    simp only [hcol, Bool.false_eq_true, if_false]
    refine AWp_skip ?_
    try simp only [thenQ, blockQ, noGotoQ]
    refine y0 _ ?_
    try clear y0 Y0
    refine AWp_seqK fun Y0 y0 => ?_
    refine AWp_midK 2 [_] [_] rfl fun Q0 q0 => ?_
    simp only [go_sem]
    refine aops_chunk 1 fun Q0 q0 => ?_
    simp only [↓bO, go_sem, seval, Tok.cells, qC, partC, List.take, List.drop, enumO, hw]
    refine q0 _ ?_
    clear q0 Q0
    simp only [go_sem]
    simp only [↓bO, go_sem, seval, Tok.cells, qC, partC, List.take, List.drop, enumO, hw]
    refine q0 _ ?_
    clear q0 Q0
    refine MidAt_lit ei36 (by decide) rfl (by decide) (by intro p hp; simp at hp; subst hp; exact ⟨rfl, rfl⟩) ?_
    simp only [putO, bS, bA, tyX, Tok.cells, List.length_map, qC, partC, List.take, List.drop, enumO, hw]
    simp only [↓bO, go_sem, seval, Tok.cells, qC, partC, List.take, List.drop, enumO, hw]
    refine y0 _ ?_
    try clear y0 Y0
    refine AWp_seqK fun Y0 y0 => ?_
    refine AWp_region ?_
    iterate 2 (refine aops_chunk 1 fun Q0 q0 => ?_; simp only [↓bO, go_sem, seval, Tok.cells, qC, partC, List.take, List.drop, enumO, hw]; refine q0 _ ?_; clear q0 Q0; simp only [go_sem])
    simp only [↓bO, go_sem, seval, Tok.cells, qC, partC, List.take, List.drop, enumO, hw]
    refine y0 _ ?_
    try clear y0 Y0
    refine AWp_seqK fun Y0 y0 => ?_
    refine AWp_label ?_
    try simp only [thenQ, blockQ, noGotoQ]
    refine y0 _ ?_
    try clear y0 Y0
    refine AWp_seqK fun Y0 y0 => ?_
    refine AWp_block ?_
    refine AWp_loopM (σ := TS) (mB 97 867) (fun s => TpI (rx l m f) l n i0 r s) (fun s => [(8, .osl 4 9 (s.ps.map Tm.cells))]) (fun s => [(5, .cells 38 [.v (.int .i64 s.x.1), .v (.int .i64 s.x.2)]), (4, .tok 40 9 s.ps.length), (0, .cells 78 (qC l s.i m s.e))]) (fun s => (if s.e = 0 then l.length - s.i + 1 else 0)) ⟨[p.1], (rx l m f (i0 + 1) (n + 1)).i, (rx l m f (i0 + 1) (n + 1)).e, 0, 0⟩ (hbr ▸ TpI.start (fun j k hj => hR j k hj) hi hp (by first | exact fun h => absurd h he0 | exact fun _ => hcol) _) ?_ (fun s hs => ?_)
    ·
     try simp only [maskL, setsL, putsO, putO, mB, List.set_cons_zero, List.set_cons_succ, seval, bL, Tm.cells_eq p.1]
     exact Weak.mk (by simp only [go_sem, Le.refl, Le.any, Le.slNil, Int.natCast_add, Int.cast_ofNat_Int, Int.natCast_one]) (fun _ _ h => h) rfl rfl
    simp only [maskL, setsL, putsO, putO, mB, List.set_cons_zero, List.set_cons_succ, seval]
    refine AWp_seqK fun Y1 y1 => ?_
    refine AWp_seqK fun Y2 y2 => ?_
    refine AWp_region ?_
    iterate 4 (refine aops_chunk 1 fun Q0 q0 => ?_; simp only [↓bO, go_sem, seval, Tok.cells, qC, partC, List.take, List.drop, enumO, hw, List.map_append, List.length_append]; refine q0 _ ?_; clear q0 Q0; simp only [go_sem])
    simp only [↓bO, go_sem, seval, Tok.cells, qC, partC, List.take, List.drop, enumO, hw, List.map_append, List.length_append]
    refine y2 _ ?_
    try clear y2 Y2
    refine AWp_cond rfl (fun hb40 => ?_) (fun hb40 => ?_)
    ·
     have he : s.e = 0 := by simpa using hb40
     have hs1 := hs.2.2.1
     have hs2 := hs.2.2.2.1
     have hs8 := hs.2.1
     refine AWp_skip ?_
     try simp only [thenQ, blockQ, noGotoQ]
     refine y1 _ ?_
     try clear y1 Y1
     refine AWp_block ?_
     refine AWp_seqK fun Y1 y1 => ?_
     refine AWp_region ?_
     iterate 3 (refine aops_chunk 1 fun Q0 q0 => ?_; simp only [↓bO, go_sem, seval, Tok.cells, qC, partC, List.take, List.drop, enumO, hw, List.map_append, List.length_append]; refine q0 _ ?_; clear q0 Q0; simp only [go_sem])
     refine aops_chunk 1 fun Q0 q0 => ?_
     simp only [↓bO, go_sem, seval, Tok.cells, qC, partC, List.take, List.drop, enumO, hw, List.map_append, List.length_append]
     refine QCalls.at (k := 0) (here_q l m s.i s.e (by omega)) ?_ (.agg (.cons (.v _) (.cons (.v _) .nil))) rfl (by first | omega | (simp only; omega)) ?_
     · exact ⟨.ptr rfl, trivial⟩
     simp only [putO, Nat.reduceEqDiff, ↓reduceIte]
     try simp only [bS, bA, thenQ, blockQ, noGotoQ]
     refine q0 _ ?_
     clear q0 Q0
     simp only [go_sem]
     simp only [↓bO, go_sem, seval, Tok.cells, qC, partC, List.take, List.drop, enumO, hw, List.map_append, List.length_append]
     refine y1 _ ?_
     try clear y1 Y1
     refine AWp_seqK fun Y1 y1 => ?_
     refine AWp_region ?_
     iterate 5 (refine aops_chunk 1 fun Q0 q0 => ?_; simp only [↓bO, go_sem, seval, Tok.cells, qC, partC, List.take, List.drop, enumO, hw, List.map_append, List.length_append]; refine q0 _ ?_; clear q0 Q0; simp only [go_sem])
     simp only [↓bO, go_sem, seval, Tok.cells, qC, partC, List.take, List.drop, enumO, hw, List.map_append, List.length_append]
     refine y1 _ ?_
     try clear y1 Y1
     refine AWp_block ?_
     refine AWp_seqK fun Y1 y1 => ?_
     refine AWp_region ?_
     iterate 3 (refine aops_chunk 1 fun Q0 q0 => ?_; simp only [↓bO, go_sem, seval, Tok.cells, qC, partC, List.take, List.drop, enumO, hw, List.map_append, List.length_append]; refine q0 _ ?_; clear q0 Q0; simp only [go_sem])
     refine aops_chunk 1 fun Q0 q0 => ?_
     simp only [↓bO, go_sem, seval, Tok.cells, qC, partC, List.take, List.drop, enumO, hw, List.map_append, List.length_append]
     refine QCalls.at (k := 0) (take_q l m s.i s.e 4 bClo (by omega)) ?_ (.v _) rfl (by first | omega | (simp only; omega)) ?_
     · exact ⟨.ptr rfl, .v _, .v _, trivial⟩
     simp only [putO, Nat.reduceEqDiff, ↓reduceIte]
     try simp only [bS, bA, thenQ, blockQ, noGotoQ]
     refine q0 _ ?_
     clear q0 Q0
     simp only [go_sem]
     simp only [↓bO, go_sem, seval, Tok.cells, qC, partC, List.take, List.drop, enumO, hw, List.map_append, List.length_append]
     refine y1 _ ?_
     try clear y1 Y1
     refine AWp_cond rfl (fun hb57 => ?_) (fun hb57 => ?_)
     ·
      have h1 : isT l (s.i : Int) 4 bClo = true := by simpa using hb57
      simp only [h1, if_true]
      refine AWp_exit ?_
      simp only [thenQ, blockQ, noGotoQ, bA, Nat.reduceEqDiff, ↓reduceIte]
      refine y0 _ ?_
      try clear y0 Y0
      refine AWp_seqK fun Y0 y0 => ?_
      refine AWp_region ?_
      iterate 2 (refine aops_chunk 1 fun Q0 q0 => ?_; simp only [↓bO, go_sem, seval, Tok.cells, qC, partC, List.take, List.drop, enumO, hw]; refine q0 _ ?_; clear q0 Q0; simp only [go_sem])
      refine aops_chunk 1 fun Q0 q0 => ?_
      simp only [↓bO, go_sem, seval, Tok.cells, qC, partC, List.take, List.drop, enumO, hw]
      refine APure.call (SpJoin4 _ _ _ _) ?_
      try simp only [bS, bA, thenQ, blockQ, noGotoQ]
      refine q0 _ ?_
      clear q0 Q0
      simp only [go_sem]
      refine aops_chunk 1 fun Q0 q0 => ?_
      simp only [↓bO, go_sem, seval, Tok.cells, qC, partC, List.take, List.drop, enumO, hw]
      refine q0 _ ?_
      clear q0 Q0
      simp only [go_sem]
      simp only [↓bO, go_sem, seval, Tok.cells, qC, partC, List.take, List.drop, enumO, hw]
      refine y0 _ ?_
      try clear y0 Y0
      refine AWp_seqK fun Y0 y0 => ?_
      refine AWp_seqK fun Y1 y1 => ?_
      refine AWp_region ?_
      iterate 2 (refine aops_chunk 1 fun Q0 q0 => ?_; simp only [↓bO, go_sem, seval, Tok.cells, qC, partC, List.take, List.drop, enumO, hw]; refine q0 _ ?_; clear q0 Q0; simp only [go_sem])
      simp only [↓bO, go_sem, seval, Tok.cells, qC, partC, List.take, List.drop, enumO, hw]
      refine y1 _ ?_
      try clear y1 Y1
      refine AWp_cond rfl (fun hb86 => ?_) (fun hb86 => ?_)
      ·
       obtain ⟨t1, hps⟩ := list_one (ps := s.ps) (by have h9 := hb86; simp at h9; omega)
       simp only [hps, List.map_cons, List.map_nil, Tm.cells_eq t1]
       refine AWp_seqK fun Y1 y1 => ?_
       refine AWp_drawK 5 mixed (by kernel_rfl) fun J0 j0 => ?_
       iterate 4 (simp only [go_sem]; refine dRun_chunk 1 fun Q0 q0 => ?_; simp only [↓dRun, ↓dOp, ↓bO, go_sem, seval, Tok.cells, qC, partC, List.take, List.drop, enumO, hw]; refine q0 _ ?_; clear q0 Q0)
       simp only [go_sem]
       simp only [↓dRun, ↓dOp, ↓bO, go_sem, seval, Tok.cells, qC, partC, List.take, List.drop, enumO, hw]
       refine j0 _ ?_
       clear j0 J0
       simp only [go_sem]
       simp only [↓bO, go_sem, seval, Tok.cells, qC, partC, List.take, List.drop, enumO, hw]
       refine y1 _ ?_
       try clear y1 Y1
       refine AWp_ret ?_
       try simp only [thenQ, blockQ, noGotoQ, retQ, aRes, tupOf, bS, bA, aLoad, getO, pack, bL, Nat.reduceAdd, Nat.reduceLeDiff, Nat.reduceEqDiff, ↓reduceIte, ti102, tyX, Tok.cells, List.length_map, qC, partC, List.take, List.drop, enumO, hw]
       obtain ⟨q1, q2, q3⟩ := hs.close he h1
       refine ⟨_, _, ⟨(t1, spJ (sp l i0) (sp l s.i)), ?_, rfl, rfl⟩, .data (.agg (partC_data _)), qUnd (by omega) _ _ _ _, ?_, ?_, by omega⟩
       ·
        rw [← q3, hps]
        exact fun _ => rfl
       · exact Le.refl _
       ·
        rw [q1, q2, he]
        first | exact ⟨0, rfl, rfl⟩ | exact ⟨1, rfl, rfl⟩ | exact ⟨2, rfl, rfl⟩ | exact ⟨3, rfl, rfl⟩ | exact ⟨4, rfl, rfl⟩ | exact ⟨5, rfl, rfl⟩ | exact ⟨6, rfl, rfl⟩ | exact ⟨7, rfl, rfl⟩ | exact ⟨8, rfl, rfl⟩ | exact ⟨9, rfl, rfl⟩ | exact ⟨10, rfl, rfl⟩ | exact ⟨11, rfl, rfl⟩
      ·
       have hln : ¬ s.ps.length = 1 := by (have h9 := hb86; simp at h9; omega)
       refine AWp_skip ?_
       try simp only [thenQ, blockQ, noGotoQ]
       refine y0 _ ?_
       try clear y0 Y0
       refine AWp_seqK fun Y0 y0 => ?_
       refine AWp_region ?_
       iterate 5 (refine aops_chunk 1 fun Q0 q0 => ?_; simp only [↓bO, go_sem, seval, Tok.cells, qC, partC, List.take, List.drop, enumO, hw]; refine q0 _ ?_; clear q0 Q0; simp only [go_sem])
       simp only [↓bO, go_sem, seval, Tok.cells, qC, partC, List.take, List.drop, enumO, hw]
       refine y0 _ ?_
       try clear y0 Y0
       refine AWp_ret ?_
       try simp only [thenQ, blockQ, noGotoQ, retQ, aRes, tupOf, bS, bA, aLoad, getO, pack, bL, Nat.reduceAdd, Nat.reduceLeDiff, Nat.reduceEqDiff, ↓reduceIte, ti102, tyX, Tok.cells, List.length_map, qC, partC, List.take, List.drop, enumO, hw]
       obtain ⟨q1, q2, q3⟩ := hs.close he h1
       refine ⟨_, _, ⟨(tm 9 ByteArray.empty 0 s.ps (spJ (sp l i0) (sp l s.i)), spJ (sp l i0) (sp l s.i)), ?_, rfl, rfl⟩, .data (.agg (partC_data _)), qUnd (by omega) _ _ _ _, ?_, ?_, by omega⟩
       ·
        rw [← q3]
        exact fun _ => (tpP_many hln _).symm
       · exact Le.agg ⟨.refl _, .refl _, .refl _, .refl _, .refl _, Le.slNil 3, Le.osl _ _ _, .refl _, .refl _, .refl _, .refl _, trivial⟩
       ·
        rw [q1, q2, he]
        first | exact ⟨0, rfl, rfl⟩ | exact ⟨1, rfl, rfl⟩ | exact ⟨2, rfl, rfl⟩ | exact ⟨3, rfl, rfl⟩ | exact ⟨4, rfl, rfl⟩ | exact ⟨5, rfl, rfl⟩ | exact ⟨6, rfl, rfl⟩ | exact ⟨7, rfl, rfl⟩ | exact ⟨8, rfl, rfl⟩ | exact ⟨9, rfl, rfl⟩ | exact ⟨10, rfl, rfl⟩ | exact ⟨11, rfl, rfl⟩
     ·
      have h1 : isT l (s.i : Int) 4 bClo = false := by simpa using hb57
      simp only [h1, Bool.false_eq_true, if_false]
      refine AWp_seqK fun Y1 y1 => ?_
      refine AWp_region ?_
      iterate 3 (refine aops_chunk 1 fun Q0 q0 => ?_; simp only [↓bO, go_sem, seval, Tok.cells, qC, partC, List.take, List.drop, enumO, hw, List.map_append, List.length_append]; refine q0 _ ?_; clear q0 Q0; simp only [go_sem])
      refine aops_chunk 1 fun Q0 q0 => ?_
      simp only [↓bO, go_sem, seval, Tok.cells, qC, partC, List.take, List.drop, enumO, hw, List.map_append, List.length_append]
      refine QCalls.at (k := 0) (take_q l m s.i s.e 4 bCom (by omega)) ?_ (.v _) rfl (by first | omega | (simp only; omega)) ?_
      · exact ⟨.ptr rfl, .v _, .v _, trivial⟩
      simp only [putO, Nat.reduceEqDiff, ↓reduceIte]
      try simp only [bS, bA, thenQ, blockQ, noGotoQ]
      refine q0 _ ?_
      clear q0 Q0
      simp only [go_sem]
      refine aops_chunk 1 fun Q0 q0 => ?_
      simp only [↓bO, go_sem, seval, Tok.cells, qC, partC, List.take, List.drop, enumO, hw, List.map_append, List.length_append]
      refine q0 _ ?_
      clear q0 Q0
      simp only [go_sem]
      simp only [↓bO, go_sem, seval, Tok.cells, qC, partC, List.take, List.drop, enumO, hw, List.map_append, List.length_append]
      refine y1 _ ?_
      try clear y1 Y1
      refine AWp_cond rfl (fun hb62 => ?_) (fun hb62 => ?_)
      ·
       have h2 : isT l (s.i : Int) 4 bCom = false := by simpa using hb62
       simp only [h2, Bool.false_eq_true, if_false]
       refine AWp_region ?_
       refine aops_chunk 1 fun Q0 q0 => ?_
       simp only [↓bO, go_sem, seval, Tok.cells, qC, partC, List.take, List.drop, enumO, hw, List.map_append, List.length_append]
       refine q0 _ ?_
       clear q0 Q0
       simp only [go_sem]
       simp only [↓bO, go_sem, seval, Tok.cells, qC, partC, List.take, List.drop, enumO, hw, List.map_append, List.length_append]
       refine QCalls.at (k := 0) (show QCalls 66 [.ptr 0 0, .v (.int .i64 3)] l m s.i s.e (.tup []) s.i 3 from by have h9 := fail_q l m s.i s.e 3; rwa [if_pos he] at h9) ?_ (.tup .nil) rfl (by first | omega | (simp only; omega)) ?_
       · exact ⟨.ptr rfl, .v _, trivial⟩
       simp only [putO, Nat.reduceEqDiff, ↓reduceIte]
       try simp only [bS, bA, thenQ, blockQ, noGotoQ]
       refine ⟨⟨s.ps, s.i, 3, (tk l s.i).a, (tk l s.i).b⟩, hs.bad he h1 h2 _, by (show (if (3 : Int) = 0 then _ else 0) < _; rw [if_neg (by decide), if_pos he]; omega), ?_⟩
       try simp only [maskL, setsL, putsO, putO, mB, List.set_cons_zero, List.set_cons_succ, seval, List.map_append, bL, List.length_append]
       exact Weak.mk (by simp only [go_sem, Le.refl, Le.any, Le.slNil, Int.natCast_add, Int.cast_ofNat_Int, Int.natCast_one]) (fun _ _ h => h) rfl rfl
      ·
       have h2 : isT l (s.i : Int) 4 bCom = true := by simpa using hb62
       simp only [h2, if_true]
       refine AWp_seqK fun Y1 y1 => ?_
       refine AWp_region ?_
       iterate 3 (refine aops_chunk 1 fun Q0 q0 => ?_; simp only [↓bO, go_sem, seval, Tok.cells, qC, partC, List.take, List.drop, enumO, hw, List.map_append, List.length_append]; refine q0 _ ?_; clear q0 Q0; simp only [go_sem])
       simp only [↓bO, go_sem, seval, Tok.cells, qC, partC, List.take, List.drop, enumO, hw, List.map_append, List.length_append]
       refine y1 _ ?_
       try clear y1 Y1
       refine AWp_cond rfl (fun hb70 => ?_) (fun hb70 => ?_)
       ·
        have h3 : s.ps.length = 8 := by (have h9 := hb70; simp at h9; omega)
        refine AWp_seqK fun Y1 y1 => ?_
        refine AWp_region ?_
        iterate 5 (refine aops_chunk 1 fun Q0 q0 => ?_; simp only [↓bO, go_sem, seval, Tok.cells, qC, partC, List.take, List.drop, enumO, hw, List.map_append, List.length_append]; refine q0 _ ?_; clear q0 Q0; simp only [go_sem])
        simp only [↓bO, go_sem, seval, Tok.cells, qC, partC, List.take, List.drop, enumO, hw, List.map_append, List.length_append]
        refine y1 _ ?_
        try clear y1 Y1
        refine AWp_region ?_
        refine aops_chunk 1 fun Q0 q0 => ?_
        simp only [↓bO, go_sem, seval, Tok.cells, qC, partC, List.take, List.drop, enumO, hw, List.map_append, List.length_append]
        refine q0 _ ?_
        clear q0 Q0
        simp only [go_sem]
        simp only [↓bO, go_sem, seval, Tok.cells, qC, partC, List.take, List.drop, enumO, hw, List.map_append, List.length_append]
        refine QCalls.at (k := 0) (show QCalls 66 [.ptr 0 0, .v (.int .i64 6)] l m s.i s.e (.tup []) s.i 6 from by have h9 := fail_q l m s.i s.e 6; rwa [if_pos he] at h9) ?_ (.tup .nil) rfl (by first | omega | (simp only; omega)) ?_
        · exact ⟨.ptr rfl, .v _, trivial⟩
        simp only [putO, Nat.reduceEqDiff, ↓reduceIte]
        try simp only [bS, bA, thenQ, blockQ, noGotoQ]
        refine ⟨⟨s.ps, s.i, 6, (tk l s.i).a, (tk l s.i).b⟩, hs.many he h2 h3 _, by (show (if (6 : Int) = 0 then _ else 0) < _; rw [if_neg (by decide), if_pos he]; omega), ?_⟩
        try simp only [maskL, setsL, putsO, putO, mB, List.set_cons_zero, List.set_cons_succ, seval, List.map_append, bL, List.length_append]
        exact Weak.mk (by simp only [go_sem, Le.refl, Le.any, Le.slNil, Int.natCast_add, Int.cast_ofNat_Int, Int.natCast_one]) (fun _ _ h => h) rfl rfl
       ·
        have h3 : ¬ s.ps.length = 8 := by (have h9 := hb70; simp at h9; omega)
        have hs8 := hs.2.1
        have hb1 : (s.ps.length + 1) * 112 ≤ 140737488355328 := by omega
        have hb2 : s.ps.length + 1 ≤ maxLen := by (simp only [maxLen]; omega)
        have h2l := isT_ltN h2
        refine AWp_region ?_
        iterate 3 (refine aops_chunk 1 fun Q0 q0 => ?_; simp only [↓bO, go_sem, seval, Tok.cells, qC, partC, List.take, List.drop, enumO, hw, List.map_append, List.length_append, hb1, hb2]; refine q0 _ ?_; clear q0 Q0; simp only [go_sem])
        refine aops_chunk 1 fun Q0 q0 => ?_
        simp only [↓bO, go_sem, seval, Tok.cells, qC, partC, List.take, List.drop, enumO, hw, List.map_append, List.length_append, hb1, hb2]
        refine QEx.at (k := 0) (show QEx 64 [.ptr 0 0, .v (.int .i64 (n + 1))] l m (s.i + 1) s.e (rx l m f (s.i + 1) (n + 1)) from by rw [he]; exact hP.zero (by omega) (by omega) (by omega) (by omega)) ?_ rfl (by first | omega | (simp only; omega)) ?_
        · exact ⟨.ptr rfl, .v _, trivial⟩
        intro q hq
        simp only [partC, putO, Nat.reduceEqDiff, ↓reduceIte]
        try simp only [bS, bA, thenQ, blockQ, noGotoQ]
        refine q0 _ ?_
        clear q0 Q0
        simp only [go_sem]
        refine aops_chunk 1 fun Q0 q0 => ?_
        simp only [↓bO, go_sem, seval, Tok.cells, qC, partC, List.take, List.drop, enumO, hw, List.map_append, List.length_append, hb1, hb2, Tm.cells_eq q.1]
        refine q0 _ ?_
        clear q0 Q0
        simp only [go_sem]
        refine aops_chunk 1 fun Q0 q0 => ?_
        simp only [↓bO, go_sem, seval, ↓bs1_1, ↓bs1_2, ↓bs1_3, ↓bs1_4, ↓bs1_5, ↓bs1_6, ↓bs1_7, ↓bs1_8, ↓bs1_9, ↓bs1_10, ↓bs1_11, ↓bs1_12, Tok.cells, qC, partC, List.take, List.drop, enumO, hw, List.map_append, List.length_append, hb1, hb2, Tm.cells_eq q.1]
        refine q0 _ ?_
        clear q0 Q0
        simp only [go_sem]
        refine aops_chunk 1 fun Q0 q0 => ?_
        simp only [↓bO, go_sem, seval, Tok.cells, qC, partC, List.take, List.drop, enumO, hw, List.map_append, List.length_append, hb1, hb2, Tm.cells_eq q.1]
        refine q0 _ ?_
        clear q0 Q0
        simp only [go_sem]
        simp only [↓bO, go_sem, seval, Tok.cells, qC, partC, List.take, List.drop, enumO, hw, List.map_append, List.length_append, hb1, hb2, Tm.cells_eq q.1]
        refine ⟨⟨s.ps ++ [q.1], (rx l m f (s.i + 1) (n + 1)).i, (rx l m f (s.i + 1) (n + 1)).e, (tk l s.i).a, (tk l s.i).b⟩, hs.next (fun j k hj => hR j k hj) he h2 h3 hq _, by (show (if (rx l m f (s.i + 1) (n + 1)).e = 0 then l.length - (rx l m f (s.i + 1) (n + 1)).i + 1 else 0) < _; rw [if_pos he]; have := (hR (s.i + 1) (n + 1) (by omega)).1; split <;> omega), ?_⟩
        try simp only [maskL, setsL, putsO, putO, mB, List.set_cons_zero, List.set_cons_succ, seval, List.map_append, bL, List.length_append, hb1, hb2, Tm.cells_eq q.1]
        exact Weak.mk (by simp only [go_sem, Le.refl, Le.any, Le.slNil, Int.natCast_add, Int.cast_ofNat_Int, Int.natCast_one]) (fun _ _ h => h) rfl rfl
    ·
     have he : ¬ s.e = 0 := by simpa using hb40
     have hs8 := hs.2.1
     refine AWp_exit ?_
     simp only [thenQ, blockQ, noGotoQ, bA, Nat.reduceEqDiff, ↓reduceIte]
     refine y0 _ ?_
     try clear y0 Y0
     refine AWp_seqK fun Y0 y0 => ?_
     refine AWp_region ?_
     iterate 2 (refine aops_chunk 1 fun Q0 q0 => ?_; simp only [↓bO, go_sem, seval, Tok.cells, qC, partC, List.take, List.drop, enumO, hw]; refine q0 _ ?_; clear q0 Q0; simp only [go_sem])
     refine aops_chunk 1 fun Q0 q0 => ?_
     simp only [↓bO, go_sem, seval, Tok.cells, qC, partC, List.take, List.drop, enumO, hw]
     refine APure.call (SpJoin4 _ _ _ _) ?_
     try simp only [bS, bA, thenQ, blockQ, noGotoQ]
     refine q0 _ ?_
     clear q0 Q0
     simp only [go_sem]
     refine aops_chunk 1 fun Q0 q0 => ?_
     simp only [↓bO, go_sem, seval, Tok.cells, qC, partC, List.take, List.drop, enumO, hw]
     refine q0 _ ?_
     clear q0 Q0
     simp only [go_sem]
     simp only [↓bO, go_sem, seval, Tok.cells, qC, partC, List.take, List.drop, enumO, hw]
     refine y0 _ ?_
     try clear y0 Y0
     refine AWp_seqK fun Y0 y0 => ?_
     refine AWp_seqK fun Y1 y1 => ?_
     refine AWp_region ?_
     iterate 2 (refine aops_chunk 1 fun Q0 q0 => ?_; simp only [↓bO, go_sem, seval, Tok.cells, qC, partC, List.take, List.drop, enumO, hw]; refine q0 _ ?_; clear q0 Q0; simp only [go_sem])
     simp only [↓bO, go_sem, seval, Tok.cells, qC, partC, List.take, List.drop, enumO, hw]
     refine y1 _ ?_
     try clear y1 Y1
     refine AWp_cond rfl (fun hb86 => ?_) (fun hb86 => ?_)
     ·
      obtain ⟨t1, hps⟩ := list_one (ps := s.ps) (by have h9 := hb86; simp at h9; omega)
      simp only [hps, List.map_cons, List.map_nil, Tm.cells_eq t1]
      refine AWp_seqK fun Y1 y1 => ?_
      refine AWp_drawK 5 mixed (by kernel_rfl) fun J0 j0 => ?_
      iterate 4 (simp only [go_sem]; refine dRun_chunk 1 fun Q0 q0 => ?_; simp only [↓dRun, ↓dOp, ↓bO, go_sem, seval, Tok.cells, qC, partC, List.take, List.drop, enumO, hw]; refine q0 _ ?_; clear q0 Q0)
      simp only [go_sem]
      simp only [↓dRun, ↓dOp, ↓bO, go_sem, seval, Tok.cells, qC, partC, List.take, List.drop, enumO, hw]
      refine j0 _ ?_
      clear j0 J0
      simp only [go_sem]
      simp only [↓bO, go_sem, seval, Tok.cells, qC, partC, List.take, List.drop, enumO, hw]
      refine y1 _ ?_
      try clear y1 Y1
      refine AWp_ret ?_
      try simp only [thenQ, blockQ, noGotoQ, retQ, aRes, tupOf, bS, bA, aLoad, getO, pack, bL, Nat.reduceAdd, Nat.reduceLeDiff, Nat.reduceEqDiff, ↓reduceIte, ti102, tyX, Tok.cells, List.length_map, qC, partC, List.take, List.drop, enumO, hw]
      obtain ⟨q1, q2⟩ := hs.2.2.2.2.2 he
      refine ⟨_, _, ⟨(t1, spJ (sp l i0) s.x), ?_, rfl, rfl⟩, .data (.agg (partC_data _)), qUnd (by omega) _ _ _ _, ?_, ?_, by omega⟩
      · exact fun h => absurd (q2.symm.trans h) he
      · exact Le.refl _
      ·
       rw [q1, q2]
       first | exact ⟨0, rfl, rfl⟩ | exact ⟨1, rfl, rfl⟩ | exact ⟨2, rfl, rfl⟩ | exact ⟨3, rfl, rfl⟩ | exact ⟨4, rfl, rfl⟩ | exact ⟨5, rfl, rfl⟩ | exact ⟨6, rfl, rfl⟩ | exact ⟨7, rfl, rfl⟩ | exact ⟨8, rfl, rfl⟩ | exact ⟨9, rfl, rfl⟩ | exact ⟨10, rfl, rfl⟩ | exact ⟨11, rfl, rfl⟩
     ·
      have hln : ¬ s.ps.length = 1 := by (have h9 := hb86; simp at h9; omega)
      refine AWp_skip ?_
      try simp only [thenQ, blockQ, noGotoQ]
      refine y0 _ ?_
      try clear y0 Y0
      refine AWp_seqK fun Y0 y0 => ?_
      refine AWp_region ?_
      iterate 5 (refine aops_chunk 1 fun Q0 q0 => ?_; simp only [↓bO, go_sem, seval, Tok.cells, qC, partC, List.take, List.drop, enumO, hw]; refine q0 _ ?_; clear q0 Q0; simp only [go_sem])
      simp only [↓bO, go_sem, seval, Tok.cells, qC, partC, List.take, List.drop, enumO, hw]
      refine y0 _ ?_
      try clear y0 Y0
      refine AWp_ret ?_
      try simp only [thenQ, blockQ, noGotoQ, retQ, aRes, tupOf, bS, bA, aLoad, getO, pack, bL, Nat.reduceAdd, Nat.reduceLeDiff, Nat.reduceEqDiff, ↓reduceIte, ti102, tyX, Tok.cells, List.length_map, qC, partC, List.take, List.drop, enumO, hw]
      obtain ⟨q1, q2⟩ := hs.2.2.2.2.2 he
      refine ⟨_, _, ⟨(tm 9 ByteArray.empty 0 s.ps (spJ (sp l i0) s.x), spJ (sp l i0) s.x), ?_, rfl, rfl⟩, .data (.agg (partC_data _)), qUnd (by omega) _ _ _ _, ?_, ?_, by omega⟩
      · exact fun h => absurd (q2.symm.trans h) he
      · exact Le.agg ⟨.refl _, .refl _, .refl _, .refl _, .refl _, Le.slNil 3, Le.osl _ _ _, .refl _, .refl _, .refl _, .refl _, trivial⟩
      ·
       rw [q1, q2]
       first | exact ⟨0, rfl, rfl⟩ | exact ⟨1, rfl, rfl⟩ | exact ⟨2, rfl, rfl⟩ | exact ⟨3, rfl, rfl⟩ | exact ⟨4, rfl, rfl⟩ | exact ⟨5, rfl, rfl⟩ | exact ⟨6, rfl, rfl⟩ | exact ⟨7, rfl, rfl⟩ | exact ⟨8, rfl, rfl⟩ | exact ⟨9, rfl, rfl⟩ | exact ⟨10, rfl, rfl⟩ | exact ⟨11, rfl, rfl⟩
  ·
   simp only [List.set_cons_zero, List.set_cons_succ]
   have he0 : ¬ (rx l m f (i0 + 1) (n + 1)).e = 0 := by simpa using hc20
   iterate 4 (refine aops_chunk 1 fun Q0 q0 => ?_; simp only [↓bO, go_sem, seval, Tok.cells, qC, partC, List.take, List.drop, enumO, hw]; refine q0 _ ?_; clear q0 Q0; simp only [go_sem])
   simp only [↓bO, go_sem, seval, Tok.cells, qC, partC, List.take, List.drop, enumO, hw]
   refine y1 _ ?_
   try clear y1 Y1
   refine AWp_cond (b := false) (by first | exact rfl | exact congrArg (fun b => AV.v (.bool b)) hb25) (fun h => (by cases h)) (fun _ => ?_)
   refine AWp_skip ?_
   try simp only [thenQ, blockQ, noGotoQ]
   refine y0 _ ?_
   try clear y0 Y0
   refine AWp_seqK fun Y0 y0 => ?_
   refine AWp_midK 2 [_] [_] rfl fun Q0 q0 => ?_
   simp only [go_sem]
   refine aops_chunk 1 fun Q0 q0 => ?_
   simp only [↓bO, go_sem, seval, Tok.cells, qC, partC, List.take, List.drop, enumO, hw]
   refine q0 _ ?_
   clear q0 Q0
   simp only [go_sem]
   simp only [↓bO, go_sem, seval, Tok.cells, qC, partC, List.take, List.drop, enumO, hw]
   refine q0 _ ?_
   clear q0 Q0
   refine MidAt_lit ei36 (by decide) rfl (by decide) (by intro p hp; simp at hp; subst hp; exact ⟨rfl, rfl⟩) ?_
   simp only [putO, bS, bA, tyX, Tok.cells, List.length_map, qC, partC, List.take, List.drop, enumO, hw]
   simp only [↓bO, go_sem, seval, Tok.cells, qC, partC, List.take, List.drop, enumO, hw]
   refine y0 _ ?_
   try clear y0 Y0
   refine AWp_seqK fun Y0 y0 => ?_
   refine AWp_region ?_
   iterate 2 (refine aops_chunk 1 fun Q0 q0 => ?_; simp only [↓bO, go_sem, seval, Tok.cells, qC, partC, List.take, List.drop, enumO, hw]; refine q0 _ ?_; clear q0 Q0; simp only [go_sem])
   simp only [↓bO, go_sem, seval, Tok.cells, qC, partC, List.take, List.drop, enumO, hw]
   refine y0 _ ?_
   try clear y0 Y0
   refine AWp_seqK fun Y0 y0 => ?_
   refine AWp_label ?_
   try simp only [thenQ, blockQ, noGotoQ]
   refine y0 _ ?_
   try clear y0 Y0
   refine AWp_seqK fun Y0 y0 => ?_
   refine AWp_block ?_
   refine AWp_loopM (σ := TS) (mB 97 867) (fun s => TpI (rx l m f) l n i0 r s) (fun s => [(8, .osl 4 9 (s.ps.map Tm.cells))]) (fun s => [(5, .cells 38 [.v (.int .i64 s.x.1), .v (.int .i64 s.x.2)]), (4, .tok 40 9 s.ps.length), (0, .cells 78 (qC l s.i m s.e))]) (fun s => (if s.e = 0 then l.length - s.i + 1 else 0)) ⟨[p.1], (rx l m f (i0 + 1) (n + 1)).i, (rx l m f (i0 + 1) (n + 1)).e, 0, 0⟩ (hbr ▸ TpI.start (fun j k hj => hR j k hj) hi hp (by first | exact fun h => absurd h he0 | exact fun _ => hcol) _) ?_ (fun s hs => ?_)
   ·
    try simp only [maskL, setsL, putsO, putO, mB, List.set_cons_zero, List.set_cons_succ, seval, bL, Tm.cells_eq p.1]
    exact Weak.mk (by simp only [go_sem, Le.refl, Le.any, Le.slNil, Int.natCast_add, Int.cast_ofNat_Int, Int.natCast_one]) (fun _ _ h => h) rfl rfl
   simp only [maskL, setsL, putsO, putO, mB, List.set_cons_zero, List.set_cons_succ, seval]
   refine AWp_seqK fun Y1 y1 => ?_
   refine AWp_seqK fun Y2 y2 => ?_
   refine AWp_region ?_
   iterate 4 (refine aops_chunk 1 fun Q0 q0 => ?_; simp only [↓bO, go_sem, seval, Tok.cells, qC, partC, List.take, List.drop, enumO, hw, List.map_append, List.length_append]; refine q0 _ ?_; clear q0 Q0; simp only [go_sem])
   simp only [↓bO, go_sem, seval, Tok.cells, qC, partC, List.take, List.drop, enumO, hw, List.map_append, List.length_append]
   refine y2 _ ?_
   try clear y2 Y2
   refine AWp_cond rfl (fun hb40 => ?_) (fun hb40 => ?_)
   ·
    have he : s.e = 0 := by simpa using hb40
    have hs1 := hs.2.2.1
    have hs2 := hs.2.2.2.1
    have hs8 := hs.2.1
    refine AWp_skip ?_
    try simp only [thenQ, blockQ, noGotoQ]
    refine y1 _ ?_
    try clear y1 Y1
    refine AWp_block ?_
    refine AWp_seqK fun Y1 y1 => ?_
    refine AWp_region ?_
    iterate 3 (refine aops_chunk 1 fun Q0 q0 => ?_; simp only [↓bO, go_sem, seval, Tok.cells, qC, partC, List.take, List.drop, enumO, hw, List.map_append, List.length_append]; refine q0 _ ?_; clear q0 Q0; simp only [go_sem])
    refine aops_chunk 1 fun Q0 q0 => ?_
    simp only [↓bO, go_sem, seval, Tok.cells, qC, partC, List.take, List.drop, enumO, hw, List.map_append, List.length_append]
    refine QCalls.at (k := 0) (here_q l m s.i s.e (by omega)) ?_ (.agg (.cons (.v _) (.cons (.v _) .nil))) rfl (by first | omega | (simp only; omega)) ?_
    · exact ⟨.ptr rfl, trivial⟩
    simp only [putO, Nat.reduceEqDiff, ↓reduceIte]
    try simp only [bS, bA, thenQ, blockQ, noGotoQ]
    refine q0 _ ?_
    clear q0 Q0
    simp only [go_sem]
    simp only [↓bO, go_sem, seval, Tok.cells, qC, partC, List.take, List.drop, enumO, hw, List.map_append, List.length_append]
    refine y1 _ ?_
    try clear y1 Y1
    refine AWp_seqK fun Y1 y1 => ?_
    refine AWp_region ?_
    iterate 5 (refine aops_chunk 1 fun Q0 q0 => ?_; simp only [↓bO, go_sem, seval, Tok.cells, qC, partC, List.take, List.drop, enumO, hw, List.map_append, List.length_append]; refine q0 _ ?_; clear q0 Q0; simp only [go_sem])
    simp only [↓bO, go_sem, seval, Tok.cells, qC, partC, List.take, List.drop, enumO, hw, List.map_append, List.length_append]
    refine y1 _ ?_
    try clear y1 Y1
    refine AWp_block ?_
    refine AWp_seqK fun Y1 y1 => ?_
    refine AWp_region ?_
    iterate 3 (refine aops_chunk 1 fun Q0 q0 => ?_; simp only [↓bO, go_sem, seval, Tok.cells, qC, partC, List.take, List.drop, enumO, hw, List.map_append, List.length_append]; refine q0 _ ?_; clear q0 Q0; simp only [go_sem])
    refine aops_chunk 1 fun Q0 q0 => ?_
    simp only [↓bO, go_sem, seval, Tok.cells, qC, partC, List.take, List.drop, enumO, hw, List.map_append, List.length_append]
    refine QCalls.at (k := 0) (take_q l m s.i s.e 4 bClo (by omega)) ?_ (.v _) rfl (by first | omega | (simp only; omega)) ?_
    · exact ⟨.ptr rfl, .v _, .v _, trivial⟩
    simp only [putO, Nat.reduceEqDiff, ↓reduceIte]
    try simp only [bS, bA, thenQ, blockQ, noGotoQ]
    refine q0 _ ?_
    clear q0 Q0
    simp only [go_sem]
    simp only [↓bO, go_sem, seval, Tok.cells, qC, partC, List.take, List.drop, enumO, hw, List.map_append, List.length_append]
    refine y1 _ ?_
    try clear y1 Y1
    refine AWp_cond rfl (fun hb57 => ?_) (fun hb57 => ?_)
    ·
     have h1 : isT l (s.i : Int) 4 bClo = true := by simpa using hb57
     simp only [h1, if_true]
     refine AWp_exit ?_
     simp only [thenQ, blockQ, noGotoQ, bA, Nat.reduceEqDiff, ↓reduceIte]
     refine y0 _ ?_
     try clear y0 Y0
     refine AWp_seqK fun Y0 y0 => ?_
     refine AWp_region ?_
     iterate 2 (refine aops_chunk 1 fun Q0 q0 => ?_; simp only [↓bO, go_sem, seval, Tok.cells, qC, partC, List.take, List.drop, enumO, hw]; refine q0 _ ?_; clear q0 Q0; simp only [go_sem])
     refine aops_chunk 1 fun Q0 q0 => ?_
     simp only [↓bO, go_sem, seval, Tok.cells, qC, partC, List.take, List.drop, enumO, hw]
     refine APure.call (SpJoin4 _ _ _ _) ?_
     try simp only [bS, bA, thenQ, blockQ, noGotoQ]
     refine q0 _ ?_
     clear q0 Q0
     simp only [go_sem]
     refine aops_chunk 1 fun Q0 q0 => ?_
     simp only [↓bO, go_sem, seval, Tok.cells, qC, partC, List.take, List.drop, enumO, hw]
     refine q0 _ ?_
     clear q0 Q0
     simp only [go_sem]
     simp only [↓bO, go_sem, seval, Tok.cells, qC, partC, List.take, List.drop, enumO, hw]
     refine y0 _ ?_
     try clear y0 Y0
     refine AWp_seqK fun Y0 y0 => ?_
     refine AWp_seqK fun Y1 y1 => ?_
     refine AWp_region ?_
     iterate 2 (refine aops_chunk 1 fun Q0 q0 => ?_; simp only [↓bO, go_sem, seval, Tok.cells, qC, partC, List.take, List.drop, enumO, hw]; refine q0 _ ?_; clear q0 Q0; simp only [go_sem])
     simp only [↓bO, go_sem, seval, Tok.cells, qC, partC, List.take, List.drop, enumO, hw]
     refine y1 _ ?_
     try clear y1 Y1
     refine AWp_cond rfl (fun hb86 => ?_) (fun hb86 => ?_)
     ·
      obtain ⟨t1, hps⟩ := list_one (ps := s.ps) (by have h9 := hb86; simp at h9; omega)
      simp only [hps, List.map_cons, List.map_nil, Tm.cells_eq t1]
      refine AWp_seqK fun Y1 y1 => ?_
      refine AWp_drawK 5 mixed (by kernel_rfl) fun J0 j0 => ?_
      iterate 4 (simp only [go_sem]; refine dRun_chunk 1 fun Q0 q0 => ?_; simp only [↓dRun, ↓dOp, ↓bO, go_sem, seval, Tok.cells, qC, partC, List.take, List.drop, enumO, hw]; refine q0 _ ?_; clear q0 Q0)
      simp only [go_sem]
      simp only [↓dRun, ↓dOp, ↓bO, go_sem, seval, Tok.cells, qC, partC, List.take, List.drop, enumO, hw]
      refine j0 _ ?_
      clear j0 J0
      simp only [go_sem]
      simp only [↓bO, go_sem, seval, Tok.cells, qC, partC, List.take, List.drop, enumO, hw]
      refine y1 _ ?_
      try clear y1 Y1
      refine AWp_ret ?_
      try simp only [thenQ, blockQ, noGotoQ, retQ, aRes, tupOf, bS, bA, aLoad, getO, pack, bL, Nat.reduceAdd, Nat.reduceLeDiff, Nat.reduceEqDiff, ↓reduceIte, ti102, tyX, Tok.cells, List.length_map, qC, partC, List.take, List.drop, enumO, hw]
      obtain ⟨q1, q2, q3⟩ := hs.close he h1
      refine ⟨_, _, ⟨(t1, spJ (sp l i0) (sp l s.i)), ?_, rfl, rfl⟩, .data (.agg (partC_data _)), qUnd (by omega) _ _ _ _, ?_, ?_, by omega⟩
      ·
       rw [← q3, hps]
       exact fun _ => rfl
      · exact Le.refl _
      ·
       rw [q1, q2, he]
       first | exact ⟨0, rfl, rfl⟩ | exact ⟨1, rfl, rfl⟩ | exact ⟨2, rfl, rfl⟩ | exact ⟨3, rfl, rfl⟩ | exact ⟨4, rfl, rfl⟩ | exact ⟨5, rfl, rfl⟩ | exact ⟨6, rfl, rfl⟩ | exact ⟨7, rfl, rfl⟩ | exact ⟨8, rfl, rfl⟩ | exact ⟨9, rfl, rfl⟩ | exact ⟨10, rfl, rfl⟩ | exact ⟨11, rfl, rfl⟩
     ·
      have hln : ¬ s.ps.length = 1 := by (have h9 := hb86; simp at h9; omega)
      refine AWp_skip ?_
      try simp only [thenQ, blockQ, noGotoQ]
      refine y0 _ ?_
      try clear y0 Y0
      refine AWp_seqK fun Y0 y0 => ?_
      refine AWp_region ?_
      iterate 5 (refine aops_chunk 1 fun Q0 q0 => ?_; simp only [↓bO, go_sem, seval, Tok.cells, qC, partC, List.take, List.drop, enumO, hw]; refine q0 _ ?_; clear q0 Q0; simp only [go_sem])
      simp only [↓bO, go_sem, seval, Tok.cells, qC, partC, List.take, List.drop, enumO, hw]
      refine y0 _ ?_
      try clear y0 Y0
      refine AWp_ret ?_
      try simp only [thenQ, blockQ, noGotoQ, retQ, aRes, tupOf, bS, bA, aLoad, getO, pack, bL, Nat.reduceAdd, Nat.reduceLeDiff, Nat.reduceEqDiff, ↓reduceIte, ti102, tyX, Tok.cells, List.length_map, qC, partC, List.take, List.drop, enumO, hw]
      obtain ⟨q1, q2, q3⟩ := hs.close he h1
      refine ⟨_, _, ⟨(tm 9 ByteArray.empty 0 s.ps (spJ (sp l i0) (sp l s.i)), spJ (sp l i0) (sp l s.i)), ?_, rfl, rfl⟩, .data (.agg (partC_data _)), qUnd (by omega) _ _ _ _, ?_, ?_, by omega⟩
      ·
       rw [← q3]
       exact fun _ => (tpP_many hln _).symm
      · exact Le.agg ⟨.refl _, .refl _, .refl _, .refl _, .refl _, Le.slNil 3, Le.osl _ _ _, .refl _, .refl _, .refl _, .refl _, trivial⟩
      ·
       rw [q1, q2, he]
       first | exact ⟨0, rfl, rfl⟩ | exact ⟨1, rfl, rfl⟩ | exact ⟨2, rfl, rfl⟩ | exact ⟨3, rfl, rfl⟩ | exact ⟨4, rfl, rfl⟩ | exact ⟨5, rfl, rfl⟩ | exact ⟨6, rfl, rfl⟩ | exact ⟨7, rfl, rfl⟩ | exact ⟨8, rfl, rfl⟩ | exact ⟨9, rfl, rfl⟩ | exact ⟨10, rfl, rfl⟩ | exact ⟨11, rfl, rfl⟩
    ·
     have h1 : isT l (s.i : Int) 4 bClo = false := by simpa using hb57
     simp only [h1, Bool.false_eq_true, if_false]
     refine AWp_seqK fun Y1 y1 => ?_
     refine AWp_region ?_
     iterate 3 (refine aops_chunk 1 fun Q0 q0 => ?_; simp only [↓bO, go_sem, seval, Tok.cells, qC, partC, List.take, List.drop, enumO, hw, List.map_append, List.length_append]; refine q0 _ ?_; clear q0 Q0; simp only [go_sem])
     refine aops_chunk 1 fun Q0 q0 => ?_
     simp only [↓bO, go_sem, seval, Tok.cells, qC, partC, List.take, List.drop, enumO, hw, List.map_append, List.length_append]
     refine QCalls.at (k := 0) (take_q l m s.i s.e 4 bCom (by omega)) ?_ (.v _) rfl (by first | omega | (simp only; omega)) ?_
     · exact ⟨.ptr rfl, .v _, .v _, trivial⟩
     simp only [putO, Nat.reduceEqDiff, ↓reduceIte]
     try simp only [bS, bA, thenQ, blockQ, noGotoQ]
     refine q0 _ ?_
     clear q0 Q0
     simp only [go_sem]
     refine aops_chunk 1 fun Q0 q0 => ?_
     simp only [↓bO, go_sem, seval, Tok.cells, qC, partC, List.take, List.drop, enumO, hw, List.map_append, List.length_append]
     refine q0 _ ?_
     clear q0 Q0
     simp only [go_sem]
     simp only [↓bO, go_sem, seval, Tok.cells, qC, partC, List.take, List.drop, enumO, hw, List.map_append, List.length_append]
     refine y1 _ ?_
     try clear y1 Y1
     refine AWp_cond rfl (fun hb62 => ?_) (fun hb62 => ?_)
     ·
      have h2 : isT l (s.i : Int) 4 bCom = false := by simpa using hb62
      simp only [h2, Bool.false_eq_true, if_false]
      refine AWp_region ?_
      refine aops_chunk 1 fun Q0 q0 => ?_
      simp only [↓bO, go_sem, seval, Tok.cells, qC, partC, List.take, List.drop, enumO, hw, List.map_append, List.length_append]
      refine q0 _ ?_
      clear q0 Q0
      simp only [go_sem]
      simp only [↓bO, go_sem, seval, Tok.cells, qC, partC, List.take, List.drop, enumO, hw, List.map_append, List.length_append]
      refine QCalls.at (k := 0) (show QCalls 66 [.ptr 0 0, .v (.int .i64 3)] l m s.i s.e (.tup []) s.i 3 from by have h9 := fail_q l m s.i s.e 3; rwa [if_pos he] at h9) ?_ (.tup .nil) rfl (by first | omega | (simp only; omega)) ?_
      · exact ⟨.ptr rfl, .v _, trivial⟩
      simp only [putO, Nat.reduceEqDiff, ↓reduceIte]
      try simp only [bS, bA, thenQ, blockQ, noGotoQ]
      refine ⟨⟨s.ps, s.i, 3, (tk l s.i).a, (tk l s.i).b⟩, hs.bad he h1 h2 _, by (show (if (3 : Int) = 0 then _ else 0) < _; rw [if_neg (by decide), if_pos he]; omega), ?_⟩
      try simp only [maskL, setsL, putsO, putO, mB, List.set_cons_zero, List.set_cons_succ, seval, List.map_append, bL, List.length_append]
      exact Weak.mk (by simp only [go_sem, Le.refl, Le.any, Le.slNil, Int.natCast_add, Int.cast_ofNat_Int, Int.natCast_one]) (fun _ _ h => h) rfl rfl
     ·
      have h2 : isT l (s.i : Int) 4 bCom = true := by simpa using hb62
      simp only [h2, if_true]
      refine AWp_seqK fun Y1 y1 => ?_
      refine AWp_region ?_
      iterate 3 (refine aops_chunk 1 fun Q0 q0 => ?_; simp only [↓bO, go_sem, seval, Tok.cells, qC, partC, List.take, List.drop, enumO, hw, List.map_append, List.length_append]; refine q0 _ ?_; clear q0 Q0; simp only [go_sem])
      simp only [↓bO, go_sem, seval, Tok.cells, qC, partC, List.take, List.drop, enumO, hw, List.map_append, List.length_append]
      refine y1 _ ?_
      try clear y1 Y1
      refine AWp_cond rfl (fun hb70 => ?_) (fun hb70 => ?_)
      ·
       have h3 : s.ps.length = 8 := by (have h9 := hb70; simp at h9; omega)
       refine AWp_seqK fun Y1 y1 => ?_
       refine AWp_region ?_
       iterate 5 (refine aops_chunk 1 fun Q0 q0 => ?_; simp only [↓bO, go_sem, seval, Tok.cells, qC, partC, List.take, List.drop, enumO, hw, List.map_append, List.length_append]; refine q0 _ ?_; clear q0 Q0; simp only [go_sem])
       simp only [↓bO, go_sem, seval, Tok.cells, qC, partC, List.take, List.drop, enumO, hw, List.map_append, List.length_append]
       refine y1 _ ?_
       try clear y1 Y1
       refine AWp_region ?_
       refine aops_chunk 1 fun Q0 q0 => ?_
       simp only [↓bO, go_sem, seval, Tok.cells, qC, partC, List.take, List.drop, enumO, hw, List.map_append, List.length_append]
       refine q0 _ ?_
       clear q0 Q0
       simp only [go_sem]
       simp only [↓bO, go_sem, seval, Tok.cells, qC, partC, List.take, List.drop, enumO, hw, List.map_append, List.length_append]
       refine QCalls.at (k := 0) (show QCalls 66 [.ptr 0 0, .v (.int .i64 6)] l m s.i s.e (.tup []) s.i 6 from by have h9 := fail_q l m s.i s.e 6; rwa [if_pos he] at h9) ?_ (.tup .nil) rfl (by first | omega | (simp only; omega)) ?_
       · exact ⟨.ptr rfl, .v _, trivial⟩
       simp only [putO, Nat.reduceEqDiff, ↓reduceIte]
       try simp only [bS, bA, thenQ, blockQ, noGotoQ]
       refine ⟨⟨s.ps, s.i, 6, (tk l s.i).a, (tk l s.i).b⟩, hs.many he h2 h3 _, by (show (if (6 : Int) = 0 then _ else 0) < _; rw [if_neg (by decide), if_pos he]; omega), ?_⟩
       try simp only [maskL, setsL, putsO, putO, mB, List.set_cons_zero, List.set_cons_succ, seval, List.map_append, bL, List.length_append]
       exact Weak.mk (by simp only [go_sem, Le.refl, Le.any, Le.slNil, Int.natCast_add, Int.cast_ofNat_Int, Int.natCast_one]) (fun _ _ h => h) rfl rfl
      ·
       have h3 : ¬ s.ps.length = 8 := by (have h9 := hb70; simp at h9; omega)
       have hs8 := hs.2.1
       have hb1 : (s.ps.length + 1) * 112 ≤ 140737488355328 := by omega
       have hb2 : s.ps.length + 1 ≤ maxLen := by (simp only [maxLen]; omega)
       have h2l := isT_ltN h2
       refine AWp_region ?_
       iterate 3 (refine aops_chunk 1 fun Q0 q0 => ?_; simp only [↓bO, go_sem, seval, Tok.cells, qC, partC, List.take, List.drop, enumO, hw, List.map_append, List.length_append, hb1, hb2]; refine q0 _ ?_; clear q0 Q0; simp only [go_sem])
       refine aops_chunk 1 fun Q0 q0 => ?_
       simp only [↓bO, go_sem, seval, Tok.cells, qC, partC, List.take, List.drop, enumO, hw, List.map_append, List.length_append, hb1, hb2]
       refine QEx.at (k := 0) (show QEx 64 [.ptr 0 0, .v (.int .i64 (n + 1))] l m (s.i + 1) s.e (rx l m f (s.i + 1) (n + 1)) from by rw [he]; exact hP.zero (by omega) (by omega) (by omega) (by omega)) ?_ rfl (by first | omega | (simp only; omega)) ?_
       · exact ⟨.ptr rfl, .v _, trivial⟩
       intro q hq
       simp only [partC, putO, Nat.reduceEqDiff, ↓reduceIte]
       try simp only [bS, bA, thenQ, blockQ, noGotoQ]
       refine q0 _ ?_
       clear q0 Q0
       simp only [go_sem]
       refine aops_chunk 1 fun Q0 q0 => ?_
       simp only [↓bO, go_sem, seval, Tok.cells, qC, partC, List.take, List.drop, enumO, hw, List.map_append, List.length_append, hb1, hb2, Tm.cells_eq q.1]
       refine q0 _ ?_
       clear q0 Q0
       simp only [go_sem]
       refine aops_chunk 1 fun Q0 q0 => ?_
       simp only [↓bO, go_sem, seval, ↓bs1_1, ↓bs1_2, ↓bs1_3, ↓bs1_4, ↓bs1_5, ↓bs1_6, ↓bs1_7, ↓bs1_8, ↓bs1_9, ↓bs1_10, ↓bs1_11, ↓bs1_12, Tok.cells, qC, partC, List.take, List.drop, enumO, hw, List.map_append, List.length_append, hb1, hb2, Tm.cells_eq q.1]
       refine q0 _ ?_
       clear q0 Q0
       simp only [go_sem]
       refine aops_chunk 1 fun Q0 q0 => ?_
       simp only [↓bO, go_sem, seval, Tok.cells, qC, partC, List.take, List.drop, enumO, hw, List.map_append, List.length_append, hb1, hb2, Tm.cells_eq q.1]
       refine q0 _ ?_
       clear q0 Q0
       simp only [go_sem]
       simp only [↓bO, go_sem, seval, Tok.cells, qC, partC, List.take, List.drop, enumO, hw, List.map_append, List.length_append, hb1, hb2, Tm.cells_eq q.1]
       refine ⟨⟨s.ps ++ [q.1], (rx l m f (s.i + 1) (n + 1)).i, (rx l m f (s.i + 1) (n + 1)).e, (tk l s.i).a, (tk l s.i).b⟩, hs.next (fun j k hj => hR j k hj) he h2 h3 hq _, by (show (if (rx l m f (s.i + 1) (n + 1)).e = 0 then l.length - (rx l m f (s.i + 1) (n + 1)).i + 1 else 0) < _; rw [if_pos he]; have := (hR (s.i + 1) (n + 1) (by omega)).1; split <;> omega), ?_⟩
       try simp only [maskL, setsL, putsO, putO, mB, List.set_cons_zero, List.set_cons_succ, seval, List.map_append, bL, List.length_append, hb1, hb2, Tm.cells_eq q.1]
       exact Weak.mk (by simp only [go_sem, Le.refl, Le.any, Le.slNil, Int.natCast_add, Int.cast_ofNat_Int, Int.natCast_one]) (fun _ _ h => h) rfl rfl
   ·
    have he : ¬ s.e = 0 := by simpa using hb40
    have hs8 := hs.2.1
    refine AWp_exit ?_
    simp only [thenQ, blockQ, noGotoQ, bA, Nat.reduceEqDiff, ↓reduceIte]
    refine y0 _ ?_
    try clear y0 Y0
    refine AWp_seqK fun Y0 y0 => ?_
    refine AWp_region ?_
    iterate 2 (refine aops_chunk 1 fun Q0 q0 => ?_; simp only [↓bO, go_sem, seval, Tok.cells, qC, partC, List.take, List.drop, enumO, hw]; refine q0 _ ?_; clear q0 Q0; simp only [go_sem])
    refine aops_chunk 1 fun Q0 q0 => ?_
    simp only [↓bO, go_sem, seval, Tok.cells, qC, partC, List.take, List.drop, enumO, hw]
    refine APure.call (SpJoin4 _ _ _ _) ?_
    try simp only [bS, bA, thenQ, blockQ, noGotoQ]
    refine q0 _ ?_
    clear q0 Q0
    simp only [go_sem]
    refine aops_chunk 1 fun Q0 q0 => ?_
    simp only [↓bO, go_sem, seval, Tok.cells, qC, partC, List.take, List.drop, enumO, hw]
    refine q0 _ ?_
    clear q0 Q0
    simp only [go_sem]
    simp only [↓bO, go_sem, seval, Tok.cells, qC, partC, List.take, List.drop, enumO, hw]
    refine y0 _ ?_
    try clear y0 Y0
    refine AWp_seqK fun Y0 y0 => ?_
    refine AWp_seqK fun Y1 y1 => ?_
    refine AWp_region ?_
    iterate 2 (refine aops_chunk 1 fun Q0 q0 => ?_; simp only [↓bO, go_sem, seval, Tok.cells, qC, partC, List.take, List.drop, enumO, hw]; refine q0 _ ?_; clear q0 Q0; simp only [go_sem])
    simp only [↓bO, go_sem, seval, Tok.cells, qC, partC, List.take, List.drop, enumO, hw]
    refine y1 _ ?_
    try clear y1 Y1
    refine AWp_cond rfl (fun hb86 => ?_) (fun hb86 => ?_)
    ·
     obtain ⟨t1, hps⟩ := list_one (ps := s.ps) (by have h9 := hb86; simp at h9; omega)
     simp only [hps, List.map_cons, List.map_nil, Tm.cells_eq t1]
     refine AWp_seqK fun Y1 y1 => ?_
     refine AWp_drawK 5 mixed (by kernel_rfl) fun J0 j0 => ?_
     iterate 4 (simp only [go_sem]; refine dRun_chunk 1 fun Q0 q0 => ?_; simp only [↓dRun, ↓dOp, ↓bO, go_sem, seval, Tok.cells, qC, partC, List.take, List.drop, enumO, hw]; refine q0 _ ?_; clear q0 Q0)
     simp only [go_sem]
     simp only [↓dRun, ↓dOp, ↓bO, go_sem, seval, Tok.cells, qC, partC, List.take, List.drop, enumO, hw]
     refine j0 _ ?_
     clear j0 J0
     simp only [go_sem]
     simp only [↓bO, go_sem, seval, Tok.cells, qC, partC, List.take, List.drop, enumO, hw]
     refine y1 _ ?_
     try clear y1 Y1
     refine AWp_ret ?_
     try simp only [thenQ, blockQ, noGotoQ, retQ, aRes, tupOf, bS, bA, aLoad, getO, pack, bL, Nat.reduceAdd, Nat.reduceLeDiff, Nat.reduceEqDiff, ↓reduceIte, ti102, tyX, Tok.cells, List.length_map, qC, partC, List.take, List.drop, enumO, hw]
     obtain ⟨q1, q2⟩ := hs.2.2.2.2.2 he
     refine ⟨_, _, ⟨(t1, spJ (sp l i0) s.x), ?_, rfl, rfl⟩, .data (.agg (partC_data _)), qUnd (by omega) _ _ _ _, ?_, ?_, by omega⟩
     · exact fun h => absurd (q2.symm.trans h) he
     · exact Le.refl _
     ·
      rw [q1, q2]
      first | exact ⟨0, rfl, rfl⟩ | exact ⟨1, rfl, rfl⟩ | exact ⟨2, rfl, rfl⟩ | exact ⟨3, rfl, rfl⟩ | exact ⟨4, rfl, rfl⟩ | exact ⟨5, rfl, rfl⟩ | exact ⟨6, rfl, rfl⟩ | exact ⟨7, rfl, rfl⟩ | exact ⟨8, rfl, rfl⟩ | exact ⟨9, rfl, rfl⟩ | exact ⟨10, rfl, rfl⟩ | exact ⟨11, rfl, rfl⟩
    ·
     have hln : ¬ s.ps.length = 1 := by (have h9 := hb86; simp at h9; omega)
     refine AWp_skip ?_
     try simp only [thenQ, blockQ, noGotoQ]
     refine y0 _ ?_
     try clear y0 Y0
     refine AWp_seqK fun Y0 y0 => ?_
     refine AWp_region ?_
     iterate 5 (refine aops_chunk 1 fun Q0 q0 => ?_; simp only [↓bO, go_sem, seval, Tok.cells, qC, partC, List.take, List.drop, enumO, hw]; refine q0 _ ?_; clear q0 Q0; simp only [go_sem])
     simp only [↓bO, go_sem, seval, Tok.cells, qC, partC, List.take, List.drop, enumO, hw]
     refine y0 _ ?_
     try clear y0 Y0
     refine AWp_ret ?_
     try simp only [thenQ, blockQ, noGotoQ, retQ, aRes, tupOf, bS, bA, aLoad, getO, pack, bL, Nat.reduceAdd, Nat.reduceLeDiff, Nat.reduceEqDiff, ↓reduceIte, ti102, tyX, Tok.cells, List.length_map, qC, partC, List.take, List.drop, enumO, hw]
     obtain ⟨q1, q2⟩ := hs.2.2.2.2.2 he
     refine ⟨_, _, ⟨(tm 9 ByteArray.empty 0 s.ps (spJ (sp l i0) s.x), spJ (sp l i0) s.x), ?_, rfl, rfl⟩, .data (.agg (partC_data _)), qUnd (by omega) _ _ _ _, ?_, ?_, by omega⟩
     · exact fun h => absurd (q2.symm.trans h) he
     · exact Le.agg ⟨.refl _, .refl _, .refl _, .refl _, .refl _, Le.slNil 3, Le.osl _ _ _, .refl _, .refl _, .refl _, .refl _, trivial⟩
     ·
      rw [q1, q2]
      first | exact ⟨0, rfl, rfl⟩ | exact ⟨1, rfl, rfl⟩ | exact ⟨2, rfl, rfl⟩ | exact ⟨3, rfl, rfl⟩ | exact ⟨4, rfl, rfl⟩ | exact ⟨5, rfl, rfl⟩ | exact ⟨6, rfl, rfl⟩ | exact ⟨7, rfl, rfl⟩ | exact ⟨8, rfl, rfl⟩ | exact ⟨9, rfl, rfl⟩ | exact ⟨10, rfl, rfl⟩ | exact ⟨11, rfl, rfl⟩
def skF (s : ByteArray) : Nat → Nat → Nat
  | 0, i => i
  | f + 1, i => if i < s.size then (if blI (bt s i) then skF s f (i + 1) else if bt s i = 35 then skF s f (i + runN s i (fun c => c != 10)) else i) else i
theorem skF_end {s : ByteArray} {f i : Nat} (h : ¬ i < s.size) : skF s f i = i := by cases f <;> simp [skF, h]
theorem skF_at {s : ByteArray} {f i : Nat} (hb : blI (bt s i) = false) (hc : ¬ bt s i = 35) : skF s f i = i := by cases f <;> simp [skF, hb, hc]
theorem skF_blank {s : ByteArray} {f i : Nat} (hi : i < s.size) (hb : blI (bt s i) = true) : skF s (f + 1) i = skF s f (i + 1) := by rw [skF, if_pos hi, if_pos hb]
theorem skF_rem {s : ByteArray} {f i : Nat} (hi : i < s.size) (hb : blI (bt s i) = false) (hc : bt s i = 35) : skF s (f + 1) i = skF s f (i + runN s i (fun c => c != 10)) := by rw [skF, if_pos hi, if_neg (by simp [hb]), if_pos hc]
theorem rem_pos {s : ByteArray} {i : Nat} (hi : i < s.size) (hc : bt s i = 35) : 0 < runN s i (fun c => c != 10) ∧ i + runN s i (fun c => c != 10) ≤ s.size := ⟨runN_pos (p := fun c => c != 10) hi (by rw [hc]; decide), runN_le s i (fun c => c != 10) (by omega)⟩
theorem skF_more {s : ByteArray} : ∀ (f g i : Nat), s.size - i < f → s.size - i < g → skF s f i = skF s g i
  | 0, _, _, h, _ => by omega
  | _, 0, _, _, h => by omega
  | f + 1, g + 1, i, hf, hg => by
    by_cases hi : i < s.size
    · by_cases hb : blI (bt s i) = true
      · rw [skF_blank hi hb, skF_blank hi hb]; exact skF_more f g (i + 1) (by omega) (by omega)
      · have hb : blI (bt s i) = false := by simpa using hb
        by_cases hc : bt s i = 35
        · have := rem_pos hi hc
          rw [skF_rem hi hb hc, skF_rem hi hb hc]; exact skF_more f g _ (by omega) (by omega)
        · rw [skF_at hb hc, skF_at hb hc]
    · rw [skF_end hi, skF_end hi]
def skA (s : ByteArray) (i : Nat) : Nat := skF s (s.size - i + 1) i
theorem skA_end {s : ByteArray} {i : Nat} (h : ¬ i < s.size) : skA s i = i := skF_end h
theorem skA_at {s : ByteArray} {i : Nat} (hb : blI (bt s i) = false) (hc : ¬ bt s i = 35) : skA s i = i := skF_at hb hc
theorem skA_blank {s : ByteArray} {i : Nat} (hi : i < s.size) (hb : blI (bt s i) = true) : skA s (i + 1) = skA s i := by
  unfold skA; rw [skF_blank hi hb]; exact skF_more _ _ _ (by omega) (by omega)
theorem skA_rem {s : ByteArray} {i : Nat} (hi : i < s.size) (hb : blI (bt s i) = false) (hc : bt s i = 35) : skA s (i + runN s i (fun c => c != 10)) = skA s i := by
  have := rem_pos hi hc
  unfold skA; rw [skF_rem hi hb hc]; exact skF_more _ _ _ (by omega) (by omega)
def nxD (s : ByteArray) (i : Nat) : Int × Nat × Int :=
  if (1 < runN s i dgI ∧ bt s i = 48) ∨ (i + runN s i dgI < s.size ∧ inI (bt s (i + runN s i dgI)) = true) then (0, 0, 3) else if 9 < runN s i dgI then (0, 0, 2) else (2, runN s i dgI, 0)
theorem sg_idx (c : Fin 256) : decide (0 ≤ Lib.indexByte ([40, 41, 44, 58, 61, 42] : List UInt8) (Int.toNat (c.val : Int)).toUInt8) = isSg (c.val : Int) := by revert c; decide
theorem Skip_pure (s : ByteArray) (i : Nat) (hi : i ≤ s.size) (hs : s.size ≤ 1048576) : APure Tryd.prog 24 [.v (.string s), .v (.int .i64 i)] (.v (.int .i64 (skA s i))) := by
  refine APure.mkL (.cons (.v _) (.cons (.v _) .nil)) (.v _) ?_
  refine ACalls_intro Tryd.func24 (by kernel_rfl) rfl (by rw [Tryd.ntmps24]; simp) (fun hm => ?_)
  simp only [Tryd.ntmps24, Tryd.results24, List.length_cons, List.length_nil, Nat.reduceAdd, Nat.reduceSub, List.replicate_succ, List.replicate_zero, List.cons_append, List.nil_append]
  refine AWp_seqK fun Y0 y0 => ?_
  refine AWp_region ?_
  simp only [↓bO, go_sem, seval]
  refine y0 _ ?_
  try clear y0 Y0
  refine AWp_seqK fun Y0 y0 => ?_
  refine AWp_block ?_
  refine AWp_loopM (σ := Nat) (mB 28 3) (fun j => j ≤ s.size ∧ skA s j = skA s i) (fun j => [(1, .v (.int .i64 (j : Int)))]) (fun j => []) (fun j => s.size - j) i (⟨hi, rfl⟩) ?_ (fun j hj => ?_)
  ·
   try simp only [maskL, setsL, putsO, putO, mB, List.set_cons_zero, List.set_cons_succ, seval]
   exact Weak.mk (by simp only [go_sem, Le.refl, Le.any, Le.slNil, Int.natCast_add, Int.cast_ofNat_Int, Int.natCast_one]) (fun _ _ h => h) rfl rfl
  simp only [maskL, setsL, putsO, putO, mB, List.set_cons_zero, List.set_cons_succ, seval]
  have hw1 : IntKind.i64.wrap ((j : Int) + 1) = ((j + 1 : Nat) : Int) := by (rw [wrap_in (by omega) (by omega)]; omega)
  refine AWp_seqK fun Y1 y1 => ?_
  refine AWp_seqK fun Y2 y2 => ?_
  refine AWp_region ?_
  iterate 3 (refine aops_chunk 1 fun Q0 q0 => ?_; simp only [↓bO, go_sem, seval, hw1]; refine q0 _ ?_; clear q0 Q0; simp only [go_sem])
  simp only [↓bO, go_sem, seval, hw1]
  refine y2 _ ?_
  try clear y2 Y2
  refine AWp_cond rfl (fun hb8 => ?_) (fun hb8 => ?_)
  ·
   have hlt : j < s.size := by simpa using hb8
   have hcc : ((((s[j]?).getD 0).toNat : Nat) : Int) = bt s j := rfl
   refine AWp_skip ?_
   try simp only [thenQ, blockQ, noGotoQ]
   refine y1 _ ?_
   try clear y1 Y1
   iterate 2 (refine AWp_block ?_)
   refine AWp_seqK fun Y1 y1 => ?_
   refine AWp_region ?_
   iterate 3 (refine aops_chunk 1 fun Q0 q0 => ?_; simp only [↓bO, go_sem, seval, hw1, hlt, hcc]; refine q0 _ ?_; clear q0 Q0; simp only [go_sem])
   refine aops_chunk 1 fun Q0 q0 => ?_
   simp only [↓bO, go_sem, seval, hw1, hlt, hcc]
   refine APure.call (blank_pure (bt s j)) ?_
   try simp only [bS, bA, thenQ, blockQ, noGotoQ]
   refine q0 _ ?_
   clear q0 Q0
   simp only [go_sem]
   simp only [↓bO, go_sem, seval, hw1, hlt, hcc]
   refine y1 _ ?_
   try clear y1 Y1
   refine AWp_cond rfl (fun hb10 => ?_) (fun hb10 => ?_)
   ·
    have hbl : blI (bt s j) = true := hb10
    refine AWp_region ?_
    iterate 2 (refine aops_chunk 1 fun Q0 q0 => ?_; simp only [↓bO, go_sem, seval, hw1, hlt, hcc]; refine q0 _ ?_; clear q0 Q0; simp only [go_sem])
    simp only [↓bO, go_sem, seval, hw1, hlt, hcc]
    refine ⟨(j + 1), ⟨by omega, by rw [skA_blank hlt hbl]; exact hj.2⟩, by omega, ?_⟩
    try simp only [maskL, setsL, putsO, putO, mB, List.set_cons_zero, List.set_cons_succ, seval, hw1, hlt, hcc]
    exact Weak.mk (by simp only [go_sem, Le.refl, Le.any, Le.slNil, Int.natCast_add, Int.cast_ofNat_Int, Int.natCast_one]) (fun _ _ h => h) rfl rfl
   ·
    have hbl : blI (bt s j) = false := hb10
    refine AWp_seqK fun Y1 y1 => ?_
    refine AWp_region ?_
    iterate 4 (refine aops_chunk 1 fun Q0 q0 => ?_; simp only [↓bO, go_sem, seval, hw1, hlt, hcc]; refine q0 _ ?_; clear q0 Q0; simp only [go_sem])
    simp only [↓bO, go_sem, seval, hw1, hlt, hcc]
    refine y1 _ ?_
    try clear y1 Y1
    refine AWp_cond rfl (fun hb17 => ?_) (fun hb17 => ?_)
    ·
     have h35 : bt s j = 35 := by simpa using hb17
     have hrp := rem_pos hlt h35
     have hw2 : IntKind.i64.wrap ((j : Int) + (runN s j (fun c => c != 10) : Nat)) = ((j + runN s j (fun c => c != 10) : Nat) : Int) := by (rw [wrap_in (by omega) (by omega)]; omega)
     refine AWp_region ?_
     iterate 3 (refine aops_chunk 1 fun Q0 q0 => ?_; simp only [↓bO, go_sem, seval, hw1, hlt, hcc, hw2]; refine q0 _ ?_; clear q0 Q0; simp only [go_sem])
     refine aops_chunk 1 fun Q0 q0 => ?_
     simp only [↓bO, go_sem, seval, hw1, hlt, hcc, hw2]
     refine APure.call (run_pure s j 43 (fun c => c != 10) skip1_pure (by omega) (by omega)) ?_
     try simp only [bS, bA, thenQ, blockQ, noGotoQ]
     refine q0 _ ?_
     clear q0 Q0
     simp only [go_sem]
     refine aops_chunk 1 fun Q0 q0 => ?_
     simp only [↓bO, go_sem, seval, hw1, hlt, hcc, hw2]
     refine q0 _ ?_
     clear q0 Q0
     simp only [go_sem]
     simp only [↓bO, go_sem, seval, hw1, hlt, hcc, hw2]
     refine ⟨(j + runN s j (fun c => c != 10)), ⟨by omega, by rw [skA_rem hlt hbl h35]; exact hj.2⟩, by omega, ?_⟩
     try simp only [maskL, setsL, putsO, putO, mB, List.set_cons_zero, List.set_cons_succ, seval, hw1, hlt, hcc, hw2]
     exact Weak.mk (by simp only [go_sem, Le.refl, Le.any, Le.slNil, Int.natCast_add, Int.cast_ofNat_Int, Int.natCast_one]) (fun _ _ h => h) rfl rfl
    ·
     have h35 : ¬ bt s j = 35 := by simpa using hb17
     refine AWp_seqK fun Y1 y1 => ?_
     refine AWp_region ?_
     refine aops_chunk 1 fun Q0 q0 => ?_
     simp only [↓bO, go_sem, seval, hw1, hlt, hcc]
     refine q0 _ ?_
     clear q0 Q0
     simp only [go_sem]
     simp only [↓bO, go_sem, seval, hw1, hlt, hcc]
     refine y1 _ ?_
     try clear y1 Y1
     refine AWp_ret ?_
     try simp only [thenQ, blockQ, noGotoQ, retQ, aRes, tupOf, bS, bA]
     refine Le.of_eq (congrArg (fun n : Nat => AV.v (.int .i64 n)) ?_)
     rw [← hj.2]
     exact (skA_at hbl h35).symm
  ·
   have hge : ¬ j < s.size := by simpa using hb8
   refine AWp_exit ?_
   simp only [thenQ, blockQ, noGotoQ, bA, Nat.reduceEqDiff, ↓reduceIte]
   refine y0 _ ?_
   try clear y0 Y0
   refine AWp_seqK fun Y0 y0 => ?_
   refine AWp_region ?_
   refine aops_chunk 1 fun Q0 q0 => ?_
   simp only [↓bO, go_sem, seval]
   refine q0 _ ?_
   clear q0 Q0
   simp only [go_sem]
   simp only [↓bO, go_sem, seval]
   refine y0 _ ?_
   try clear y0 Y0
   refine AWp_ret ?_
   try simp only [thenQ, blockQ, noGotoQ, retQ, aRes, tupOf, bS, bA]
   refine Le.of_eq (congrArg (fun n : Nat => AV.v (.int .i64 n)) ?_)
   rw [← hj.2]
   exact (skA_end hge).symm
theorem Number_pure2 (s : ByteArray) (i : Nat) (hi : i < s.size) (hs : s.size ≤ 1048576) : APure Tryd.prog 48 [.v (.string s), .v (.int .i64 i)] (.tup [.v (.int .i64 (nxD s i).1), .v (.int .i64 ((nxD s i).2.1 : Nat)), .v (.int .i64 (nxD s i).2.2)]) := by
  refine APure.mkL (.cons (.v _) (.cons (.v _) .nil)) ((.tup (.cons (.v _) (.cons (.v _) (.cons (.v _) .nil))))) ?_
  refine ACalls_intro Tryd.func48 (by kernel_rfl) rfl (by rw [Tryd.ntmps48]; simp) (fun hm => ?_)
  simp only [Tryd.ntmps48, Tryd.results48, List.length_cons, List.length_nil, Nat.reduceAdd, Nat.reduceSub, List.replicate_succ, List.replicate_zero, List.cons_append, List.nil_append]
  have hnl := runN_le s i dgI (by omega)
  generalize hN : runN s i dgI = n at hnl
  have hD : nxD s i = if ((1 < n ∧ bt s i = 48) ∨ (i + n < s.size ∧ inI (bt s (i + n)) = true)) then (0, 0, 3) else if 9 < n then (0, 0, 2) else (2, n, 0) := by (unfold nxD; rw [hN])
  have hcc : ((((s[i]?).getD 0).toNat : Nat) : Int) = bt s i := rfl
  have hcn : ((((s[i + n]?).getD 0).toNat : Nat) : Int) = bt s (i + n) := rfl
  have hw1 : IntKind.i64.wrap ((i : Int) + (n : Int)) = ((i + n : Nat) : Int) := by (rw [wrap_in (by omega) (by omega)]; omega)
  refine AWp_seqK fun Y0 y0 => ?_
  refine AWp_region ?_
  iterate 2 (refine aops_chunk 1 fun Q0 q0 => ?_; simp only [↓bO, go_sem, seval, hcc, hcn, hw1, hi]; refine q0 _ ?_; clear q0 Q0; simp only [go_sem])
  simp only [↓bO, go_sem, seval, hcc, hcn, hw1, hi]
  refine y0 _ ?_
  try clear y0 Y0
  refine AWp_seqK fun Y0 y0 => ?_
  refine AWp_region ?_
  iterate 2 (refine aops_chunk 1 fun Q0 q0 => ?_; simp only [↓bO, go_sem, seval, hcc, hcn, hw1, hi]; refine q0 _ ?_; clear q0 Q0; simp only [go_sem])
  refine aops_chunk 1 fun Q0 q0 => ?_
  simp only [↓bO, go_sem, seval, hcc, hcn, hw1, hi]
  refine APure.call (by have h9 := run_pure s i 47 dgI digit_pure (by omega) (by omega); rw [hN] at h9; exact h9) ?_
  try simp only [bS, bA, thenQ, blockQ, noGotoQ]
  refine q0 _ ?_
  clear q0 Q0
  simp only [go_sem]
  simp only [↓bO, go_sem, seval, hcc, hcn, hw1, hi]
  refine y0 _ ?_
  try clear y0 Y0
  refine AWp_seqK fun Y0 y0 => ?_
  refine AWp_block ?_
  refine AWp_seqK fun Y1 y1 => ?_
  refine AWp_seqK fun Y2 y2 => ?_
  refine AWp_region ?_
  iterate 3 (refine aops_chunk 1 fun Q0 q0 => ?_; simp only [↓bO, go_sem, seval, hcc, hcn, hw1, hi]; refine q0 _ ?_; clear q0 Q0; simp only [go_sem])
  refine aops_case 14 rfl (fun hc14 => ?_) (fun hc14 => ?_)
  ·
   simp only [List.set_cons_zero, List.set_cons_succ]
   have h1n : 1 < n := by (have h9 := hc14; simp at h9; omega)
   iterate 5 (refine aops_chunk 1 fun Q0 q0 => ?_; simp only [↓bO, go_sem, seval, hcc, hcn, hw1, hi]; refine q0 _ ?_; clear q0 Q0; simp only [go_sem])
   simp only [↓bO, go_sem, seval, hcc, hcn, hw1, hi]
   refine y2 _ ?_
   try clear y2 Y2
   refine AWp_cond rfl (fun hb11 => ?_) (fun hb11 => ?_)
   ·
    refine AWp_skip ?_
    try simp only [thenQ, blockQ, noGotoQ]
    refine y1 _ ?_
    try clear y1 Y1
    refine AWp_cond (b := true) (by first | exact rfl | exact congrArg (fun b => AV.v (.bool b)) hb11) (fun _ => ?_) (fun h => (by cases h))
    refine AWp_seqK fun Y1 y1 => ?_
    refine AWp_region ?_
    iterate 2 (refine aops_chunk 1 fun Q0 q0 => ?_; simp only [↓bO, go_sem, seval, hcc, hcn, hw1, hi]; refine q0 _ ?_; clear q0 Q0; simp only [go_sem])
    simp only [↓bO, go_sem, seval, hcc, hcn, hw1, hi]
    refine y1 _ ?_
    try clear y1 Y1
    refine AWp_ret ?_
    try simp only [thenQ, blockQ, noGotoQ, retQ, aRes, tupOf, bS, bA]
    have hp : ((1 < n ∧ bt s i = 48) ∨ (i + n < s.size ∧ inI (bt s (i + n)) = true)) := by first | (left; simp_all; done) | (right; simp_all; done)
    rw [hD, if_pos hp]; exact Le.refl _
   ·
    refine AWp_region ?_
    iterate 7 (refine aops_chunk 1 fun Q0 q0 => ?_; simp only [↓bO, go_sem, seval, hcc, hcn, hw1, hi]; refine q0 _ ?_; clear q0 Q0; simp only [go_sem])
    refine aops_case 26 rfl (fun hc26 => ?_) (fun hc26 => ?_)
    ·
     simp only [List.set_cons_zero, List.set_cons_succ]
     have hlt : i + n < s.size := by simpa using hc26
     iterate 5 (refine aops_chunk 1 fun Q0 q0 => ?_; simp only [↓bO, go_sem, seval, hcc, hcn, hw1, hi, hlt]; refine q0 _ ?_; clear q0 Q0; simp only [go_sem])
     refine aops_chunk 1 fun Q0 q0 => ?_
     simp only [↓bO, go_sem, seval, hcc, hcn, hw1, hi, hlt]
     refine APure.call (inner_pure (bt s (i + n))) ?_
     try simp only [bS, bA, thenQ, blockQ, noGotoQ]
     refine q0 _ ?_
     clear q0 Q0
     simp only [go_sem]
     refine aops_chunk 1 fun Q0 q0 => ?_
     simp only [↓bO, go_sem, seval, hcc, hcn, hw1, hi, hlt]
     refine q0 _ ?_
     clear q0 Q0
     simp only [go_sem]
     simp only [↓bO, go_sem, seval, hcc, hcn, hw1, hi, hlt]
     refine y1 _ ?_
     try clear y1 Y1
     refine AWp_cond rfl (fun hb11 => ?_) (fun hb11 => ?_)
     ·
      refine AWp_seqK fun Y1 y1 => ?_
      refine AWp_region ?_
      iterate 2 (refine aops_chunk 1 fun Q0 q0 => ?_; simp only [↓bO, go_sem, seval, hcc, hcn, hw1, hi, hlt]; refine q0 _ ?_; clear q0 Q0; simp only [go_sem])
      simp only [↓bO, go_sem, seval, hcc, hcn, hw1, hi, hlt]
      refine y1 _ ?_
      try clear y1 Y1
      refine AWp_ret ?_
      try simp only [thenQ, blockQ, noGotoQ, retQ, aRes, tupOf, bS, bA]
      have hp : ((1 < n ∧ bt s i = 48) ∨ (i + n < s.size ∧ inI (bt s (i + n)) = true)) := by first | (left; simp_all; done) | (right; simp_all; done)
      rw [hD, if_pos hp]; exact Le.refl _
     ·
      refine AWp_seqK fun Y1 y1 => ?_
      refine AWp_region ?_
      iterate 2 (refine aops_chunk 1 fun Q0 q0 => ?_; simp only [↓bO, go_sem, seval, hcc, hcn, hw1, hi, hlt]; refine q0 _ ?_; clear q0 Q0; simp only [go_sem])
      simp only [↓bO, go_sem, seval, hcc, hcn, hw1, hi, hlt]
      refine y1 _ ?_
      try clear y1 Y1
      refine AWp_cond rfl (fun hb34 => ?_) (fun hb34 => ?_)
      ·
       have h9n : 9 < n := by (have h9 := hb34; simp at h9; omega)
       refine AWp_seqK fun Y1 y1 => ?_
       refine AWp_region ?_
       iterate 2 (refine aops_chunk 1 fun Q0 q0 => ?_; simp only [↓bO, go_sem, seval, hcc, hcn, hw1, hi, hlt]; refine q0 _ ?_; clear q0 Q0; simp only [go_sem])
       simp only [↓bO, go_sem, seval, hcc, hcn, hw1, hi, hlt]
       refine y1 _ ?_
       try clear y1 Y1
       refine AWp_ret ?_
       try simp only [thenQ, blockQ, noGotoQ, retQ, aRes, tupOf, bS, bA]
       have hp : ¬ ((1 < n ∧ bt s i = 48) ∨ (i + n < s.size ∧ inI (bt s (i + n)) = true)) := by (rintro (⟨h8, h9⟩ | ⟨h8, h9⟩) <;> simp_all)
       rw [hD, if_neg hp, if_pos h9n]; exact Le.refl _
      ·
       have h9n : ¬ 9 < n := by (have h9 := hb34; simp at h9; omega)
       refine AWp_skip ?_
       try simp only [thenQ, blockQ, noGotoQ]
       refine y0 _ ?_
       try clear y0 Y0
       refine AWp_seqK fun Y0 y0 => ?_
       refine AWp_region ?_
       iterate 3 (refine aops_chunk 1 fun Q0 q0 => ?_; simp only [↓bO, go_sem, seval, hcc, hcn, hw1, hi, hlt]; refine q0 _ ?_; clear q0 Q0; simp only [go_sem])
       simp only [↓bO, go_sem, seval, hcc, hcn, hw1, hi, hlt]
       refine y0 _ ?_
       try clear y0 Y0
       refine AWp_ret ?_
       try simp only [thenQ, blockQ, noGotoQ, retQ, aRes, tupOf, bS, bA]
       have hp : ¬ ((1 < n ∧ bt s i = 48) ∨ (i + n < s.size ∧ inI (bt s (i + n)) = true)) := by (rintro (⟨h8, h9⟩ | ⟨h8, h9⟩) <;> simp_all)
       rw [hD, if_neg hp, if_neg h9n]; exact Le.refl _
    ·
     simp only [List.set_cons_zero, List.set_cons_succ]
     have hge : ¬ i + n < s.size := by simpa using hc26
     iterate 7 (refine aops_chunk 1 fun Q0 q0 => ?_; simp only [↓bO, go_sem, seval, hcc, hcn, hw1, hi]; refine q0 _ ?_; clear q0 Q0; simp only [go_sem])
     simp only [↓bO, go_sem, seval, hcc, hcn, hw1, hi]
     refine y1 _ ?_
     try clear y1 Y1
     refine AWp_cond (b := false) (by first | exact rfl | exact congrArg (fun b => AV.v (.bool b)) hb11) (fun h => (by cases h)) (fun _ => ?_)
     refine AWp_seqK fun Y1 y1 => ?_
     refine AWp_region ?_
     iterate 2 (refine aops_chunk 1 fun Q0 q0 => ?_; simp only [↓bO, go_sem, seval, hcc, hcn, hw1, hi]; refine q0 _ ?_; clear q0 Q0; simp only [go_sem])
     simp only [↓bO, go_sem, seval, hcc, hcn, hw1, hi]
     refine y1 _ ?_
     try clear y1 Y1
     refine AWp_cond rfl (fun hb34 => ?_) (fun hb34 => ?_)
     ·
      have h9n : 9 < n := by (have h9 := hb34; simp at h9; omega)
      refine AWp_seqK fun Y1 y1 => ?_
      refine AWp_region ?_
      iterate 2 (refine aops_chunk 1 fun Q0 q0 => ?_; simp only [↓bO, go_sem, seval, hcc, hcn, hw1, hi]; refine q0 _ ?_; clear q0 Q0; simp only [go_sem])
      simp only [↓bO, go_sem, seval, hcc, hcn, hw1, hi]
      refine y1 _ ?_
      try clear y1 Y1
      refine AWp_ret ?_
      try simp only [thenQ, blockQ, noGotoQ, retQ, aRes, tupOf, bS, bA]
      have hp : ¬ ((1 < n ∧ bt s i = 48) ∨ (i + n < s.size ∧ inI (bt s (i + n)) = true)) := by (rintro (⟨h8, h9⟩ | ⟨h8, h9⟩) <;> simp_all)
      rw [hD, if_neg hp, if_pos h9n]; exact Le.refl _
     ·
      have h9n : ¬ 9 < n := by (have h9 := hb34; simp at h9; omega)
      refine AWp_skip ?_
      try simp only [thenQ, blockQ, noGotoQ]
      refine y0 _ ?_
      try clear y0 Y0
      refine AWp_seqK fun Y0 y0 => ?_
      refine AWp_region ?_
      iterate 3 (refine aops_chunk 1 fun Q0 q0 => ?_; simp only [↓bO, go_sem, seval, hcc, hcn, hw1, hi]; refine q0 _ ?_; clear q0 Q0; simp only [go_sem])
      simp only [↓bO, go_sem, seval, hcc, hcn, hw1, hi]
      refine y0 _ ?_
      try clear y0 Y0
      refine AWp_ret ?_
      try simp only [thenQ, blockQ, noGotoQ, retQ, aRes, tupOf, bS, bA]
      have hp : ¬ ((1 < n ∧ bt s i = 48) ∨ (i + n < s.size ∧ inI (bt s (i + n)) = true)) := by (rintro (⟨h8, h9⟩ | ⟨h8, h9⟩) <;> simp_all)
      rw [hD, if_neg hp, if_neg h9n]; exact Le.refl _
  ·
   simp only [List.set_cons_zero, List.set_cons_succ]
   have h1n : ¬ 1 < n := by (have h9 := hc14; simp at h9; omega)
   iterate 5 (refine aops_chunk 1 fun Q0 q0 => ?_; simp only [↓bO, go_sem, seval, hcc, hcn, hw1, hi]; refine q0 _ ?_; clear q0 Q0; simp only [go_sem])
   simp only [↓bO, go_sem, seval, hcc, hcn, hw1, hi]
   refine y2 _ ?_
   try clear y2 Y2
   refine AWp_cond (b := false) (by first | exact rfl | exact congrArg (fun b => AV.v (.bool b)) hb11) (fun h => (by cases h)) (fun _ => ?_)
   refine AWp_region ?_
   iterate 7 (refine aops_chunk 1 fun Q0 q0 => ?_; simp only [↓bO, go_sem, seval, hcc, hcn, hw1, hi]; refine q0 _ ?_; clear q0 Q0; simp only [go_sem])
   refine aops_case 26 rfl (fun hc26 => ?_) (fun hc26 => ?_)
   ·
    simp only [List.set_cons_zero, List.set_cons_succ]
    have hlt : i + n < s.size := by simpa using hc26
    iterate 5 (refine aops_chunk 1 fun Q0 q0 => ?_; simp only [↓bO, go_sem, seval, hcc, hcn, hw1, hi, hlt]; refine q0 _ ?_; clear q0 Q0; simp only [go_sem])
    refine aops_chunk 1 fun Q0 q0 => ?_
    simp only [↓bO, go_sem, seval, hcc, hcn, hw1, hi, hlt]
    refine APure.call (inner_pure (bt s (i + n))) ?_
    try simp only [bS, bA, thenQ, blockQ, noGotoQ]
    refine q0 _ ?_
    clear q0 Q0
    simp only [go_sem]
    refine aops_chunk 1 fun Q0 q0 => ?_
    simp only [↓bO, go_sem, seval, hcc, hcn, hw1, hi, hlt]
    refine q0 _ ?_
    clear q0 Q0
    simp only [go_sem]
    simp only [↓bO, go_sem, seval, hcc, hcn, hw1, hi, hlt]
    refine y1 _ ?_
    try clear y1 Y1
    refine AWp_cond rfl (fun hb11 => ?_) (fun hb11 => ?_)
    ·
     refine AWp_seqK fun Y1 y1 => ?_
     refine AWp_region ?_
     iterate 2 (refine aops_chunk 1 fun Q0 q0 => ?_; simp only [↓bO, go_sem, seval, hcc, hcn, hw1, hi, hlt]; refine q0 _ ?_; clear q0 Q0; simp only [go_sem])
     simp only [↓bO, go_sem, seval, hcc, hcn, hw1, hi, hlt]
     refine y1 _ ?_
     try clear y1 Y1
     refine AWp_ret ?_
     try simp only [thenQ, blockQ, noGotoQ, retQ, aRes, tupOf, bS, bA]
     have hp : ((1 < n ∧ bt s i = 48) ∨ (i + n < s.size ∧ inI (bt s (i + n)) = true)) := by first | (left; simp_all; done) | (right; simp_all; done)
     rw [hD, if_pos hp]; exact Le.refl _
    ·
     refine AWp_seqK fun Y1 y1 => ?_
     refine AWp_region ?_
     iterate 2 (refine aops_chunk 1 fun Q0 q0 => ?_; simp only [↓bO, go_sem, seval, hcc, hcn, hw1, hi, hlt]; refine q0 _ ?_; clear q0 Q0; simp only [go_sem])
     simp only [↓bO, go_sem, seval, hcc, hcn, hw1, hi, hlt]
     refine y1 _ ?_
     try clear y1 Y1
     refine AWp_cond rfl (fun hb34 => ?_) (fun hb34 => ?_)
     ·
      have h9n : 9 < n := by (have h9 := hb34; simp at h9; omega)
      refine AWp_seqK fun Y1 y1 => ?_
      refine AWp_region ?_
      iterate 2 (refine aops_chunk 1 fun Q0 q0 => ?_; simp only [↓bO, go_sem, seval, hcc, hcn, hw1, hi, hlt]; refine q0 _ ?_; clear q0 Q0; simp only [go_sem])
      simp only [↓bO, go_sem, seval, hcc, hcn, hw1, hi, hlt]
      refine y1 _ ?_
      try clear y1 Y1
      refine AWp_ret ?_
      try simp only [thenQ, blockQ, noGotoQ, retQ, aRes, tupOf, bS, bA]
      have hp : ¬ ((1 < n ∧ bt s i = 48) ∨ (i + n < s.size ∧ inI (bt s (i + n)) = true)) := by (rintro (⟨h8, h9⟩ | ⟨h8, h9⟩) <;> simp_all)
      rw [hD, if_neg hp, if_pos h9n]; exact Le.refl _
     ·
      have h9n : ¬ 9 < n := by (have h9 := hb34; simp at h9; omega)
      refine AWp_skip ?_
      try simp only [thenQ, blockQ, noGotoQ]
      refine y0 _ ?_
      try clear y0 Y0
      refine AWp_seqK fun Y0 y0 => ?_
      refine AWp_region ?_
      iterate 3 (refine aops_chunk 1 fun Q0 q0 => ?_; simp only [↓bO, go_sem, seval, hcc, hcn, hw1, hi, hlt]; refine q0 _ ?_; clear q0 Q0; simp only [go_sem])
      simp only [↓bO, go_sem, seval, hcc, hcn, hw1, hi, hlt]
      refine y0 _ ?_
      try clear y0 Y0
      refine AWp_ret ?_
      try simp only [thenQ, blockQ, noGotoQ, retQ, aRes, tupOf, bS, bA]
      have hp : ¬ ((1 < n ∧ bt s i = 48) ∨ (i + n < s.size ∧ inI (bt s (i + n)) = true)) := by (rintro (⟨h8, h9⟩ | ⟨h8, h9⟩) <;> simp_all)
      rw [hD, if_neg hp, if_neg h9n]; exact Le.refl _
   ·
    simp only [List.set_cons_zero, List.set_cons_succ]
    have hge : ¬ i + n < s.size := by simpa using hc26
    iterate 7 (refine aops_chunk 1 fun Q0 q0 => ?_; simp only [↓bO, go_sem, seval, hcc, hcn, hw1, hi]; refine q0 _ ?_; clear q0 Q0; simp only [go_sem])
    simp only [↓bO, go_sem, seval, hcc, hcn, hw1, hi]
    refine y1 _ ?_
    try clear y1 Y1
    refine AWp_cond (b := false) (by first | exact rfl | exact congrArg (fun b => AV.v (.bool b)) hb11) (fun h => (by cases h)) (fun _ => ?_)
    refine AWp_seqK fun Y1 y1 => ?_
    refine AWp_region ?_
    iterate 2 (refine aops_chunk 1 fun Q0 q0 => ?_; simp only [↓bO, go_sem, seval, hcc, hcn, hw1, hi]; refine q0 _ ?_; clear q0 Q0; simp only [go_sem])
    simp only [↓bO, go_sem, seval, hcc, hcn, hw1, hi]
    refine y1 _ ?_
    try clear y1 Y1
    refine AWp_cond rfl (fun hb34 => ?_) (fun hb34 => ?_)
    ·
     have h9n : 9 < n := by (have h9 := hb34; simp at h9; omega)
     refine AWp_seqK fun Y1 y1 => ?_
     refine AWp_region ?_
     iterate 2 (refine aops_chunk 1 fun Q0 q0 => ?_; simp only [↓bO, go_sem, seval, hcc, hcn, hw1, hi]; refine q0 _ ?_; clear q0 Q0; simp only [go_sem])
     simp only [↓bO, go_sem, seval, hcc, hcn, hw1, hi]
     refine y1 _ ?_
     try clear y1 Y1
     refine AWp_ret ?_
     try simp only [thenQ, blockQ, noGotoQ, retQ, aRes, tupOf, bS, bA]
     have hp : ¬ ((1 < n ∧ bt s i = 48) ∨ (i + n < s.size ∧ inI (bt s (i + n)) = true)) := by (rintro (⟨h8, h9⟩ | ⟨h8, h9⟩) <;> simp_all)
     rw [hD, if_neg hp, if_pos h9n]; exact Le.refl _
    ·
     have h9n : ¬ 9 < n := by (have h9 := hb34; simp at h9; omega)
     refine AWp_skip ?_
     try simp only [thenQ, blockQ, noGotoQ]
     refine y0 _ ?_
     try clear y0 Y0
     refine AWp_seqK fun Y0 y0 => ?_
     refine AWp_region ?_
     iterate 3 (refine aops_chunk 1 fun Q0 q0 => ?_; simp only [↓bO, go_sem, seval, hcc, hcn, hw1, hi]; refine q0 _ ?_; clear q0 Q0; simp only [go_sem])
     simp only [↓bO, go_sem, seval, hcc, hcn, hw1, hi]
     refine y0 _ ?_
     try clear y0 Y0
     refine AWp_ret ?_
     try simp only [thenQ, blockQ, noGotoQ, retQ, aRes, tupOf, bS, bA]
     have hp : ¬ ((1 < n ∧ bt s i = 48) ∨ (i + n < s.size ∧ inI (bt s (i + n)) = true)) := by (rintro (⟨h8, h9⟩ | ⟨h8, h9⟩) <;> simp_all)
     rw [hD, if_neg hp, if_neg h9n]; exact Le.refl _
theorem sg_idx2 (s : ByteArray) (i : Nat) : decide (0 ≤ Lib.indexByte ([40, 41, 44, 58, 61, 42] : List UInt8) (Int.toNat (bt s i)).toUInt8) = isSg (bt s i) := by
  have h := bt_range s i
  have h2 := sg_idx ⟨(bt s i).toNat, by omega⟩
  simp only [Int.toNat_of_nonneg h.1] at h2
  exact h2
theorem pre_arrow (s : ByteArray) (i : Nat) (hi : i < s.size) : Lib.hasPrefix (s.extract i s.size).data.toList (⟨#[45, 62]⟩ : ByteArray).data.toList = (bt s i == 45 && (decide (i + 1 < s.size) && bt s (i + 1) == 62)) := by
  have hl : s.data.toList.length = s.size := Array.length_toList
  have h1 : (s.extract i s.size).data.toList = s.data.toList.drop i := by
    simp only [ByteArray.data_extract, Array.toList_extract, List.extract_eq_take_drop]
    rw [List.take_of_length_le (by rw [List.length_drop, hl]; exact Nat.le_refl _)]
  have h2 : s.data.toList.drop i = ((s[i]?).getD 0) :: s.data.toList.drop (i + 1) := by
    have h9 : i < s.data.toList.length := by omega
    rw [List.drop_eq_getElem_cons h9]
    congr 1
    have := byte_at hi
    rw [List.getElem?_eq_getElem h9] at this
    exact Option.some.inj this
  have eq1 : ∀ (b : UInt8) (k : Fin 256), (UInt8.ofNat k.val == b) = ((b.toNat : Int) == (k.val : Int)) := by
    intro b k
    rw [Bool.eq_iff_iff, beq_iff_eq, beq_iff_eq]
    constructor
    · intro h; rw [← h]; simp
    · intro h; apply UInt8.toNat_inj.1; simp; omega
  have e45 := eq1 ((s[i]?).getD 0) ⟨45, by decide⟩
  rw [h1, h2]
  unfold Lib.hasPrefix bt
  by_cases h3 : i + 1 < s.size
  · have h4 : s.data.toList.drop (i + 1) = ((s[i + 1]?).getD 0) :: s.data.toList.drop (i + 1 + 1) := by
      have h9 : i + 1 < s.data.toList.length := by omega
      rw [List.drop_eq_getElem_cons h9]
      congr 1
      have := byte_at h3
      rw [List.getElem?_eq_getElem h9] at this
      exact Option.some.inj this
    have e62 := eq1 ((s[i + 1]?).getD 0) ⟨62, by decide⟩
    rw [h4]
    simp only [List.isPrefixOf, Bool.and_true, h3, decide_true, Bool.true_and]
    rw [show (45 : UInt8) = UInt8.ofNat (⟨45, by decide⟩ : Fin 256).val from rfl, show (62 : UInt8) = UInt8.ofNat (⟨62, by decide⟩ : Fin 256).val from rfl, e45, e62]
    rfl
  · have h4 : s.data.toList.drop (i + 1) = [] := List.drop_eq_nil_of_le (by omega)
    rw [h4]
    simp [List.isPrefixOf, h3]
theorem Next_pure (s : ByteArray) (i : Nat) (hi : i < s.size) (hs : s.size ≤ 1048576) : APure Tryd.prog 25 [.v (.string s), .v (.int .i64 i)] (.tup [.v (.int .i64 (nxF s i).1), .v (.int .i64 ((nxF s i).2.1 : Nat)), .v (.int .i64 (nxF s i).2.2)]) := by
  refine APure.mkL (.cons (.v _) (.cons (.v _) .nil)) ((.tup (.cons (.v _) (.cons (.v _) (.cons (.v _) .nil))))) ?_
  refine ACalls_intro Tryd.func25 (by kernel_rfl) rfl (by rw [Tryd.ntmps25]; simp) (fun hm => ?_)
  simp only [Tryd.ntmps25, Tryd.results25, List.length_cons, List.length_nil, Nat.reduceAdd, Nat.reduceSub, List.replicate_succ, List.replicate_zero, List.cons_append, List.nil_append]
  have hnl := runN_le s i inI (by omega)
  generalize hN : runN s i inI = n at hnl
  have hcc : ((((s[i]?).getD 0).toNat : Nat) : Int) = bt s i := rfl
  have hw1 : IntKind.i64.wrap ((i : Int) + (n : Int)) = ((i + n : Nat) : Int) := by (rw [wrap_in (by omega) (by omega)]; omega)
  have ha : ((i : Int) ≤ ((i + n : Nat) : Int)) = True := eq_true (by omega)
  have hb : (((i + n : Nat) : Int) ≤ (s.size : Int)) = True := eq_true (by omega)
  have hc : ((i : Int) ≤ (s.size : Int)) = True := eq_true (by omega)
  have hsi := sg_idx2 s i
  have hpa := pre_arrow s i hi
  refine AWp_seqK fun Y0 y0 => ?_
  refine AWp_region ?_
  iterate 2 (refine aops_chunk 1 fun Q0 q0 => ?_; simp only [↓bO, go_sem, seval, hcc, hw1, hi, ha, hb, hc]; refine q0 _ ?_; clear q0 Q0; simp only [go_sem])
  simp only [↓bO, go_sem, seval, hcc, hw1, hi, ha, hb, hc]
  refine y0 _ ?_
  try clear y0 Y0
  refine AWp_seqK fun Y0 y0 => ?_
  refine AWp_region ?_
  iterate 3 (refine aops_chunk 1 fun Q0 q0 => ?_; simp only [↓bO, go_sem, seval, hcc, hw1, hi, ha, hb, hc]; refine q0 _ ?_; clear q0 Q0; simp only [go_sem])
  simp only [↓bO, go_sem, seval, hcc, hw1, hi, ha, hb, hc]
  refine y0 _ ?_
  try clear y0 Y0
  refine AWp_seqK fun Y0 y0 => ?_
  refine AWp_block ?_
  refine AWp_seqK fun Y1 y1 => ?_
  refine AWp_region ?_
  refine aops_chunk 1 fun Q0 q0 => ?_
  simp only [↓bO, go_sem, seval, hcc, hw1, hi, ha, hb, hc]
  refine q0 _ ?_
  clear q0 Q0
  simp only [go_sem]
  refine aops_chunk 1 fun Q0 q0 => ?_
  simp only [↓bO, go_sem, seval, hcc, hw1, hi, ha, hb, hc]
  refine APure.call (small_pure (bt s i)) ?_
  try simp only [bS, bA, thenQ, blockQ, noGotoQ]
  refine q0 _ ?_
  clear q0 Q0
  simp only [go_sem]
  simp only [↓bO, go_sem, seval, hcc, hw1, hi, ha, hb, hc]
  refine y1 _ ?_
  try clear y1 Y1
  refine AWp_cond rfl (fun hb12 => ?_) (fun hb12 => ?_)
  ·
   have hsm : smI (bt s i) = true := hb12
   refine AWp_seqK fun Y1 y1 => ?_
   refine AWp_region ?_
   iterate 2 (refine aops_chunk 1 fun Q0 q0 => ?_; simp only [↓bO, go_sem, seval, hcc, hw1, hi, ha, hb, hc]; refine q0 _ ?_; clear q0 Q0; simp only [go_sem])
   refine aops_chunk 1 fun Q0 q0 => ?_
   simp only [↓bO, go_sem, seval, hcc, hw1, hi, ha, hb, hc]
   refine APure.call (by have h9 := run_pure s i 45 inI inner_pure (by omega) (by omega); rw [hN] at h9; exact h9) ?_
   try simp only [bS, bA, thenQ, blockQ, noGotoQ]
   refine q0 _ ?_
   clear q0 Q0
   simp only [go_sem]
   simp only [↓bO, go_sem, seval, hcc, hw1, hi, ha, hb, hc]
   refine y1 _ ?_
   try clear y1 Y1
   refine AWp_seqK fun Y1 y1 => ?_
   refine AWp_block ?_
   refine AWp_seqK fun Y2 y2 => ?_
   refine AWp_region ?_
   iterate 6 (refine aops_chunk 1 fun Q0 q0 => ?_; simp only [↓bO, go_sem, seval, hcc, hw1, hi, ha, hb, hc]; refine q0 _ ?_; clear q0 Q0; simp only [go_sem])
   refine aops_chunk 1 fun Q0 q0 => ?_
   simp only [↓bO, go_sem, seval, hcc, hw1, hi, ha, hb, hc]
   refine APure.call (Keyword_pure (s.extract i (i + n))) ?_
   try simp only [bS, bA, thenQ, blockQ, noGotoQ]
   refine q0 _ ?_
   clear q0 Q0
   simp only [go_sem]
   simp only [↓bO, go_sem, seval, hcc, hw1, hi, ha, hb, hc]
   refine y2 _ ?_
   try clear y2 Y2
   refine AWp_cond rfl (fun hb18 => ?_) (fun hb18 => ?_)
   ·
    have hkw : kwB (s.extract i (i + n)) = true := hb18
    refine AWp_seqK fun Y2 y2 => ?_
    refine AWp_region ?_
    iterate 3 (refine aops_chunk 1 fun Q0 q0 => ?_; simp only [↓bO, go_sem, seval, hcc, hw1, hi, ha, hb, hc]; refine q0 _ ?_; clear q0 Q0; simp only [go_sem])
    simp only [↓bO, go_sem, seval, hcc, hw1, hi, ha, hb, hc]
    refine y2 _ ?_
    try clear y2 Y2
    refine AWp_ret ?_
    try simp only [thenQ, blockQ, noGotoQ, retQ, aRes, tupOf, bS, bA]
    rw [nx_letter hsm hN, if_pos hkw]; exact Le.refl _
   ·
    have hkw : kwB (s.extract i (i + n)) = false := hb18
    refine AWp_seqK fun Y2 y2 => ?_
    refine AWp_region ?_
    iterate 2 (refine aops_chunk 1 fun Q0 q0 => ?_; simp only [↓bO, go_sem, seval, hcc, hw1, hi, ha, hb, hc]; refine q0 _ ?_; clear q0 Q0; simp only [go_sem])
    simp only [↓bO, go_sem, seval, hcc, hw1, hi, ha, hb, hc]
    refine y2 _ ?_
    try clear y2 Y2
    refine AWp_cond rfl (fun hb27 => ?_) (fun hb27 => ?_)
    ·
     have h20 : 20 < n := by (have h9 := hb27; simp at h9; omega)
     refine AWp_seqK fun Y2 y2 => ?_
     refine AWp_region ?_
     iterate 2 (refine aops_chunk 1 fun Q0 q0 => ?_; simp only [↓bO, go_sem, seval, hcc, hw1, hi, ha, hb, hc]; refine q0 _ ?_; clear q0 Q0; simp only [go_sem])
     simp only [↓bO, go_sem, seval, hcc, hw1, hi, ha, hb, hc]
     refine y2 _ ?_
     try clear y2 Y2
     refine AWp_ret ?_
     try simp only [thenQ, blockQ, noGotoQ, retQ, aRes, tupOf, bS, bA]
     rw [nx_letter hsm hN, if_neg (by simp [hkw]), if_pos h20]; exact Le.refl _
    ·
     have h20 : ¬ 20 < n := by (have h9 := hb27; simp at h9; omega)
     refine AWp_skip ?_
     try simp only [thenQ, blockQ, noGotoQ]
     refine y1 _ ?_
     try clear y1 Y1
     refine AWp_seqK fun Y1 y1 => ?_
     refine AWp_region ?_
     iterate 3 (refine aops_chunk 1 fun Q0 q0 => ?_; simp only [↓bO, go_sem, seval, hcc, hw1, hi, ha, hb, hc]; refine q0 _ ?_; clear q0 Q0; simp only [go_sem])
     simp only [↓bO, go_sem, seval, hcc, hw1, hi, ha, hb, hc]
     refine y1 _ ?_
     try clear y1 Y1
     refine AWp_ret ?_
     try simp only [thenQ, blockQ, noGotoQ, retQ, aRes, tupOf, bS, bA]
     rw [nx_letter hsm hN, if_neg (by simp [hkw]), if_neg h20]; exact Le.refl _
  ·
   have hsm : smI (bt s i) = false := hb12
   refine AWp_seqK fun Y1 y1 => ?_
   refine AWp_region ?_
   refine aops_chunk 1 fun Q0 q0 => ?_
   simp only [↓bO, go_sem, seval, hcc, hw1, hi, ha, hb, hc]
   refine q0 _ ?_
   clear q0 Q0
   simp only [go_sem]
   refine aops_chunk 1 fun Q0 q0 => ?_
   simp only [↓bO, go_sem, seval, hcc, hw1, hi, ha, hb, hc]
   refine APure.call (digit_pure (bt s i)) ?_
   try simp only [bS, bA, thenQ, blockQ, noGotoQ]
   refine q0 _ ?_
   clear q0 Q0
   simp only [go_sem]
   simp only [↓bO, go_sem, seval, hcc, hw1, hi, ha, hb, hc]
   refine y1 _ ?_
   try clear y1 Y1
   refine AWp_cond rfl (fun hb31 => ?_) (fun hb31 => ?_)
   ·
    have hdg : dgI (bt s i) = true := hb31
    refine AWp_seqK fun Y1 y1 => ?_
    refine AWp_region ?_
    iterate 2 (refine aops_chunk 1 fun Q0 q0 => ?_; simp only [↓bO, go_sem, seval, hcc, hw1, hi, ha, hb, hc]; refine q0 _ ?_; clear q0 Q0; simp only [go_sem])
    refine aops_chunk 1 fun Q0 q0 => ?_
    simp only [↓bO, go_sem, seval, hcc, hw1, hi, ha, hb, hc]
    refine APure.call (Number_pure2 s i hi hs) ?_
    try simp only [bS, bA, thenQ, blockQ, noGotoQ]
    iterate 5 (refine q0 _ ?_; clear q0 Q0; simp only [go_sem]; refine aops_chunk 1 fun Q0 q0 => ?_; simp only [↓bO, go_sem, seval, hcc, hw1, hi, ha, hb, hc])
    refine q0 _ ?_
    clear q0 Q0
    simp only [go_sem]
    simp only [↓bO, go_sem, seval, hcc, hw1, hi, ha, hb, hc]
    refine y1 _ ?_
    try clear y1 Y1
    refine AWp_ret ?_
    try simp only [thenQ, blockQ, noGotoQ, retQ, aRes, tupOf, bS, bA]
    have hx : nxF s i = nxD s i := by (unfold nxF nxD; rw [if_neg (by simp [hsm]), if_pos hdg])
    rw [hx]; exact Le.refl _
   ·
    have hdg : dgI (bt s i) = false := hb31
    refine AWp_seqK fun Y1 y1 => ?_
    refine AWp_region ?_
    refine aops_chunk 1 fun Q0 q0 => ?_
    simp only [↓bO, go_sem, seval, hcc, hw1, hi, ha, hb, hc]
    refine q0 _ ?_
    clear q0 Q0
    simp only [go_sem]
    refine aops_chunk 1 fun Q0 q0 => ?_
    simp only [↓bO, go_sem, seval, hcc, hw1, hi, ha, hb, hc]
    refine APure.call (IndexByte_pure ⟨#[40, 41, 44, 58, 61, 42]⟩ (bt s i)) ?_
    try simp only [bS, bA, thenQ, blockQ, noGotoQ]
    refine q0 _ ?_
    clear q0 Q0
    simp only [go_sem]
    refine aops_chunk 1 fun Q0 q0 => ?_
    simp only [↓bO, go_sem, seval, hcc, hw1, hi, ha, hb, hc]
    refine q0 _ ?_
    clear q0 Q0
    simp only [go_sem]
    simp only [↓bO, go_sem, seval, hcc, hw1, hi, ha, hb, hc]
    refine y1 _ ?_
    try clear y1 Y1
    refine AWp_cond rfl (fun hb40 => ?_) (fun hb40 => ?_)
    ·
     have hsg : isSg (bt s i) = true := by (rw [← hsi]; simpa using hb40)
     have hn45 : ¬ bt s i = 45 := fun h => by (rw [h] at hsg; exact absurd hsg (by decide))
     refine AWp_seqK fun Y1 y1 => ?_
     refine AWp_region ?_
     iterate 2 (refine aops_chunk 1 fun Q0 q0 => ?_; simp only [↓bO, go_sem, seval, hcc, hw1, hi, ha, hb, hc]; refine q0 _ ?_; clear q0 Q0; simp only [go_sem])
     simp only [↓bO, go_sem, seval, hcc, hw1, hi, ha, hb, hc]
     refine y1 _ ?_
     try clear y1 Y1
     refine AWp_ret ?_
     try simp only [thenQ, blockQ, noGotoQ, retQ, aRes, tupOf, bS, bA]
     rw [nx_sign hsm hdg hn45, if_pos hsg]; exact Le.refl _
    ·
     have hsg : isSg (bt s i) = false := by (rw [← hsi]; simpa using hb40)
     refine AWp_seqK fun Y1 y1 => ?_
     refine AWp_region ?_
     iterate 3 (refine aops_chunk 1 fun Q0 q0 => ?_; simp only [↓bO, go_sem, seval, hcc, hw1, hi, ha, hb, hc]; refine q0 _ ?_; clear q0 Q0; simp only [go_sem])
     refine aops_chunk 1 fun Q0 q0 => ?_
     simp only [↓bO, go_sem, seval, hcc, hw1, hi, ha, hb, hc]
     refine APure.call (HasPrefix_pure (s.extract i s.size) ⟨#[45, 62]⟩) ?_
     try simp only [bS, bA, thenQ, blockQ, noGotoQ]
     refine q0 _ ?_
     clear q0 Q0
     simp only [go_sem]
     simp only [↓bO, go_sem, seval, hcc, hw1, hi, ha, hb, hc]
     refine y1 _ ?_
     try clear y1 Y1
     refine AWp_cond rfl (fun hb44 => ?_) (fun hb44 => ?_)
     ·
      have hpw : bt s i = 45 ∧ (i + 1 < s.size ∧ bt s (i + 1) = 62) := by (have h9 := hpa.symm.trans hb44; simpa using h9)
      refine AWp_seqK fun Y1 y1 => ?_
      refine AWp_region ?_
      iterate 2 (refine aops_chunk 1 fun Q0 q0 => ?_; simp only [↓bO, go_sem, seval, hcc, hw1, hi, ha, hb, hc]; refine q0 _ ?_; clear q0 Q0; simp only [go_sem])
      simp only [↓bO, go_sem, seval, hcc, hw1, hi, ha, hb, hc]
      refine y1 _ ?_
      try clear y1 Y1
      refine AWp_ret ?_
      try simp only [thenQ, blockQ, noGotoQ, retQ, aRes, tupOf, bS, bA]
      rw [nx_arrow hpw.1, if_pos hpw.2]; exact Le.refl _
     ·
      have hpw : ¬ (bt s i = 45 ∧ (i + 1 < s.size ∧ bt s (i + 1) = 62)) := by (have h9 := hpa.symm.trans hb44; rintro ⟨g1, g2, g3⟩; simp [g1, g2, g3] at h9)
      refine AWp_skip ?_
      try simp only [thenQ, blockQ, noGotoQ]
      refine y0 _ ?_
      try clear y0 Y0
      refine AWp_seqK fun Y0 y0 => ?_
      refine AWp_region ?_
      iterate 2 (refine aops_chunk 1 fun Q0 q0 => ?_; simp only [↓bO, go_sem, seval, hcc, hw1, hi, ha, hb, hc]; refine q0 _ ?_; clear q0 Q0; simp only [go_sem])
      simp only [↓bO, go_sem, seval, hcc, hw1, hi, ha, hb, hc]
      refine y0 _ ?_
      try clear y0 Y0
      refine AWp_ret ?_
      try simp only [thenQ, blockQ, noGotoQ, retQ, aRes, tupOf, bS, bA]
      by_cases h45 : bt s i = 45
      · rw [nx_arrow h45, if_neg fun h => hpw ⟨h45, h⟩]; exact Le.refl _
      · rw [nx_sign hsm hdg h45, if_neg (by simp [hsg])]; exact Le.refl _
theorem skA_ind {s : ByteArray} {C : Nat → Prop} (hb : ∀ i, i < s.size → blI (bt s i) = true → C (i + 1) → C i) (hr : ∀ i, i < s.size → blI (bt s i) = false → bt s i = 35 → C (i + runN s i (fun c => c != 10)) → C i)
    (he : ∀ i, ¬ i < s.size → C i) (ha : ∀ i, i < s.size → blI (bt s i) = false → ¬ bt s i = 35 → C i) : ∀ i, C i := by
  have key : ∀ m i, s.size - i ≤ m → C i := by
    intro m
    induction m with
    | zero => intro i h; exact he i (by omega)
    | succ m ih =>
      intro i h
      by_cases hi : i < s.size
      · by_cases h1 : blI (bt s i) = true
        · exact hb i hi h1 (ih _ (by omega))
        · have h1 : blI (bt s i) = false := by simpa using h1
          by_cases h2 : bt s i = 35
          · have := rem_pos hi h2
            exact hr i hi h1 h2 (ih _ (by omega))
          · exact ha i hi h1 h2
      · exact he i hi
  intro i
  exact key _ i (Nat.le_refl _)
theorem skA_ge (s : ByteArray) : ∀ i, i ≤ skA s i := skA_ind (s := s) (C := fun i => i ≤ skA s i) (fun i hi h1 h => by rw [← skA_blank hi h1]; omega) (fun i hi h1 h2 h => by have := rem_pos hi h2; rw [← skA_rem hi h1 h2]; omega)
  (fun i hi => by rw [skA_end hi]; exact Nat.le_refl _) (fun i hi h1 h2 => by rw [skA_at h1 h2]; exact Nat.le_refl _)
theorem skA_stop (s : ByteArray) : ∀ i, skA s i < s.size → blI (bt s (skA s i)) = false ∧ ¬ bt s (skA s i) = 35 := skA_ind (s := s) (C := fun i => skA s i < s.size → blI (bt s (skA s i)) = false ∧ ¬ bt s (skA s i) = 35)
  (fun i hi h1 h => by rw [← skA_blank hi h1]; exact h) (fun i hi h1 h2 h => by rw [← skA_rem hi h1 h2]; exact h)
  (fun i hi h => by rw [skA_end hi] at h; exact absurd h hi) (fun i hi h1 h2 h => by rw [skA_at h1 h2]; exact ⟨h1, h2⟩)
def Wk (s : ByteArray) (RES : List Tok × Int × Int) (i : Nat) (out : List Tok) : Prop := ∃ f, WS.ok s RES ⟨f, i, out⟩
theorem Wk.skip {s : ByteArray} {RES : List Tok × Int × Int} : ∀ i out, Wk s RES i out → Wk s RES (skA s i) out := skA_ind (s := s) (C := fun i => ∀ out, Wk s RES i out → Wk s RES (skA s i) out)
  (fun i hi h1 h out hw => by obtain ⟨f, hw⟩ := hw; rw [← skA_blank hi h1]; exact h out ⟨_, hw.blank hi h1⟩) (fun i hi h1 h2 h out hw => by obtain ⟨f, hw⟩ := hw; rw [← skA_rem hi h1 h2]; exact h out ⟨_, hw.rem hi h1 h2 rfl⟩)
  (fun i hi out hw => by rw [skA_end hi]; exact hw) (fun i hi h1 h2 out hw => by rw [skA_at h1 h2]; exact hw)
theorem Wk.start (s : ByteArray) : Wk s (wdA s) (skA s 0) [] := Wk.skip 0 [] ⟨_, WS.start s⟩
theorem Wk.bnd {s : ByteArray} {RES : List Tok × Int × Int} {i : Nat} {out : List Tok} (h : Wk s RES i out) : i ≤ s.size ∧ out.length ≤ i := by
  obtain ⟨f, h⟩ := h; exact h.2.2
theorem Wk.stop {s : ByteArray} {RES : List Tok × Int × Int} {i : Nat} {out : List Tok} (h : Wk s RES i out) (hi : ¬ i < s.size) : RES = (out ++ [tkEnd s], 0, 0) := by
  obtain ⟨f, h⟩ := h; exact h.stop hi
theorem Wk.bad {s : ByteArray} {RES : List Tok × Int × Int} {i : Nat} {out : List Tok} (h : Wk s RES i out) (hi : i < s.size) (hb : blI (bt s i) = false) (hc : ¬ bt s i = 35) {k : Int} {m : Nat} {e : Int} (hx : nxF s i = (k, m, e)) (he : ¬ e = 0) : RES = ([], (i : Int), e) := by
  obtain ⟨f, h⟩ := h; exact h.bad hi hb hc hx he
theorem Wk.tok {s : ByteArray} {RES : List Tok × Int × Int} {i : Nat} {out : List Tok} (h : Wk s RES i out) (hi : i < s.size) (hb : blI (bt s i) = false) (hc : ¬ bt s i = 35) {k : Int} {n : Nat} (hx : nxF s i = (k, n, 0)) :
    Wk s RES (skA s (i + n)) (out ++ [⟨k, s.extract i (i + n), i, ((i + n : Nat) : Int)⟩]) ∧ 0 < n ∧ i + n ≤ s.size := by
  obtain ⟨f, h⟩ := h
  have h1 := h.tok hi hb hc hx
  exact ⟨Wk.skip _ _ ⟨_, h1.1⟩, h1.2⟩
theorem LWords_pure (s : ByteArray) (hs : s.size ≤ 1048576) : APure Tryd.prog 14 [.v (.string s)] (.tup [.sl 4 ((wdA s).1.map Tok.cells), .v (.int .i64 (wdA s).2.1), .v (.int .i64 (wdA s).2.2)]) := by
  refine APure.mkL (.cons (.v _) .nil) ((.tup (.cons (Tok.dataSl _) (.cons (.v _) (.cons (.v _) .nil))))) ?_
  refine ACalls_intro Tryd.func14 (by kernel_rfl) rfl (by rw [Tryd.ntmps14]; simp) (fun hm => ?_)
  simp only [Tryd.ntmps14, Tryd.results14, List.length_cons, List.length_nil, Nat.reduceAdd, Nat.reduceSub, List.replicate_succ, List.replicate_zero, List.cons_append, List.nil_append]
  refine AWp_seqK fun Y0 y0 => ?_
  refine AWp_region ?_
  iterate 2 (refine aops_chunk 1 fun Q0 q0 => ?_; simp only [↓bO, go_sem, seval, Tok.cells]; refine q0 _ ?_; clear q0 Q0; simp only [go_sem])
  iterate 2 (simp only [↓bO, go_sem, seval, Tok.cells]; refine y0 _ ?_; (try clear y0 Y0); refine AWp_seqK fun Y0 y0 => ?_; refine AWp_region ?_)
  refine aops_chunk 1 fun Q0 q0 => ?_
  simp only [↓bO, go_sem, seval, Tok.cells]
  refine q0 _ ?_
  clear q0 Q0
  simp only [go_sem]
  refine aops_chunk 1 fun Q0 q0 => ?_
  simp only [↓bO, go_sem, seval, Tok.cells]
  refine APure.call (Skip_pure s 0 (by omega) hs) ?_
  try simp only [bS, bA, thenQ, blockQ, noGotoQ]
  refine q0 _ ?_
  clear q0 Q0
  simp only [go_sem]
  simp only [↓bO, go_sem, seval, Tok.cells]
  refine y0 _ ?_
  try clear y0 Y0
  refine AWp_seqK fun Y0 y0 => ?_
  refine AWp_block ?_
  refine AWp_weak (Weak.tokSlot 5 58 4 rfl) ?_
  simp only [List.set_cons_zero, List.set_cons_succ]
  refine AWp_loopM (σ := Nat × List Tok) (mB 57 97) (fun w => Wk s (wdA s) w.1 w.2 ∧ (w.1 < s.size → blI (bt s w.1) = false ∧ ¬ bt s w.1 = 35)) (fun w => [(5, .osl 0 4 (w.2.map Tok.cells)), (6, .v (.int .i64 (w.1 : Int)))]) (fun w => [(0, .tok 58 4 w.2.length)]) (fun w => s.size + 1 - w.1) (skA s 0, []) (⟨Wk.start s, skA_stop s 0⟩) ?_ (fun w hw => ?_)
  ·
   try simp only [maskL, setsL, putsO, putO, mB, List.set_cons_zero, List.set_cons_succ, seval, bL]
   exact Weak.mk (by simp only [go_sem, Le.refl, Le.any, Le.slNil, Int.natCast_add, Int.cast_ofNat_Int, Int.natCast_one]) (fun _ _ h => h) rfl rfl
  simp only [maskL, setsL, putsO, putO, mB, List.set_cons_zero, List.set_cons_succ, seval]
  have hwi := hw.1.bnd
  have hb1 : (w.2.length + 1) * 40 ≤ 140737488355328 := by omega
  have hb2 : w.2.length + 1 ≤ maxLen := by (simp only [maxLen]; omega)
  refine AWp_seqK fun Y1 y1 => ?_
  refine AWp_seqK fun Y2 y2 => ?_
  refine AWp_region ?_
  iterate 3 (refine aops_chunk 1 fun Q0 q0 => ?_; simp only [↓bO, go_sem, seval, Tok.cells, hb1, hb2, List.map_append, List.length_append]; refine q0 _ ?_; clear q0 Q0; simp only [go_sem])
  simp only [↓bO, go_sem, seval, Tok.cells, hb1, hb2, List.map_append, List.length_append]
  refine y2 _ ?_
  try clear y2 Y2
  refine AWp_cond rfl (fun hb15 => ?_) (fun hb15 => ?_)
  ·
   have hi : w.1 < s.size := by simpa using hb15
   have hst := hw.2 hi
   obtain ⟨k, n, e, hx⟩ : ∃ k n e, nxF s w.1 = (k, n, e) := ⟨_, _, _, rfl⟩
   refine AWp_skip ?_
   try simp only [thenQ, blockQ, noGotoQ]
   refine y1 _ ?_
   try clear y1 Y1
   refine AWp_block ?_
   refine AWp_seqK fun Y1 y1 => ?_
   refine AWp_region ?_
   iterate 2 (refine aops_chunk 1 fun Q0 q0 => ?_; simp only [↓bO, go_sem, seval, Tok.cells, hb1, hb2, List.map_append, List.length_append, hi]; refine q0 _ ?_; clear q0 Q0; simp only [go_sem])
   refine aops_chunk 1 fun Q0 q0 => ?_
   simp only [↓bO, go_sem, seval, Tok.cells, hb1, hb2, List.map_append, List.length_append, hi]
   refine APure.call (by have h9 := Next_pure s w.1 hi hs; rw [hx] at h9; exact h9) ?_
   try simp only [bS, bA, thenQ, blockQ, noGotoQ]
   iterate 6 (refine q0 _ ?_; clear q0 Q0; simp only [go_sem]; refine aops_chunk 1 fun Q0 q0 => ?_; simp only [↓bO, go_sem, seval, Tok.cells, hb1, hb2, List.map_append, List.length_append, hi])
   refine q0 _ ?_
   clear q0 Q0
   simp only [go_sem]
   simp only [↓bO, go_sem, seval, Tok.cells, hb1, hb2, List.map_append, List.length_append, hi]
   refine y1 _ ?_
   try clear y1 Y1
   refine AWp_seqK fun Y1 y1 => ?_
   refine AWp_seqK fun Y2 y2 => ?_
   refine AWp_region ?_
   refine aops_chunk 1 fun Q0 q0 => ?_
   simp only [↓bO, go_sem, seval, Tok.cells, hb1, hb2, List.map_append, List.length_append, hi]
   refine q0 _ ?_
   clear q0 Q0
   simp only [go_sem]
   simp only [↓bO, go_sem, seval, Tok.cells, hb1, hb2, List.map_append, List.length_append, hi]
   refine y2 _ ?_
   try clear y2 Y2
   refine AWp_cond rfl (fun hb24 => ?_) (fun hb24 => ?_)
   ·
    have he : ¬ e = 0 := by simpa using hb24
    refine AWp_seqK fun Y2 y2 => ?_
    refine AWp_region ?_
    iterate 4 (refine aops_chunk 1 fun Q0 q0 => ?_; simp only [↓bO, go_sem, seval, Tok.cells, hb1, hb2, List.map_append, List.length_append, hi]; refine q0 _ ?_; clear q0 Q0; simp only [go_sem])
    simp only [↓bO, go_sem, seval, Tok.cells, hb1, hb2, List.map_append, List.length_append, hi]
    refine y2 _ ?_
    try clear y2 Y2
    refine AWp_ret ?_
    try simp only [thenQ, blockQ, noGotoQ, retQ, aRes, tupOf, bS, bA]
    rw [hw.1.bad hi hst.1 hst.2 hx he]
    exact Le.tup ⟨Le.slNil 4, .refl _, .refl _, trivial⟩
   ·
    have he : e = 0 := by simpa using hb24
    subst he
    have htk := hw.1.tok hi hst.1 hst.2 hx
    have hsg := skA_ge s (w.1 + n)
    have hw1 : IntKind.i64.wrap ((w.1 : Int) + (n : Int)) = ((w.1 + n : Nat) : Int) := by (rw [wrap_in (by omega) (by omega)]; omega)
    have ha : ((w.1 : Int) ≤ ((w.1 + n : Nat) : Int)) = True := eq_true (by omega)
    have hb : (((w.1 + n : Nat) : Int) ≤ (s.size : Int)) = True := eq_true (by omega)
    refine AWp_skip ?_
    try simp only [thenQ, blockQ, noGotoQ]
    refine y1 _ ?_
    try clear y1 Y1
    refine AWp_seqK fun Y1 y1 => ?_
    refine AWp_region ?_
    iterate 14 (refine aops_chunk 1 fun Q0 q0 => ?_; simp only [↓bO, go_sem, seval, Tok.cells, hb1, hb2, List.map_append, List.length_append, hi, hw1, ha, hb]; refine q0 _ ?_; clear q0 Q0; simp only [go_sem])
    refine aops_chunk 1 fun Q0 q0 => ?_
    simp only [↓bO, go_sem, seval, ↓bs1_1, ↓bs1_2, ↓bs1_3, ↓bs1_4, ↓bs1_5, ↓bs1_6, ↓bs1_7, ↓bs1_8, ↓bs1_9, ↓bs1_10, ↓bs1_11, ↓bs1_12, Tok.cells, hb1, hb2, List.map_append, List.length_append, hi, hw1, ha, hb]
    refine q0 _ ?_
    clear q0 Q0
    simp only [go_sem]
    refine aops_chunk 1 fun Q0 q0 => ?_
    simp only [↓bO, go_sem, seval, Tok.cells, hb1, hb2, List.map_append, List.length_append, hi, hw1, ha, hb]
    refine q0 _ ?_
    clear q0 Q0
    simp only [go_sem]
    simp only [↓bO, go_sem, seval, Tok.cells, hb1, hb2, List.map_append, List.length_append, hi, hw1, ha, hb]
    refine y1 _ ?_
    try clear y1 Y1
    refine AWp_region ?_
    iterate 4 (refine aops_chunk 1 fun Q0 q0 => ?_; simp only [↓bO, go_sem, seval, Tok.cells, hb1, hb2, List.map_append, List.length_append, hi, hw1, ha, hb]; refine q0 _ ?_; clear q0 Q0; simp only [go_sem])
    refine aops_chunk 1 fun Q0 q0 => ?_
    simp only [↓bO, go_sem, seval, Tok.cells, hb1, hb2, List.map_append, List.length_append, hi, hw1, ha, hb]
    refine APure.call (Skip_pure s (w.1 + n) (by omega) hs) ?_
    try simp only [bS, bA, thenQ, blockQ, noGotoQ]
    refine q0 _ ?_
    clear q0 Q0
    simp only [go_sem]
    simp only [↓bO, go_sem, seval, Tok.cells, hb1, hb2, List.map_append, List.length_append, hi, hw1, ha, hb]
    refine ⟨(skA s (w.1 + n), w.2 ++ [⟨k, s.extract w.1 (w.1 + n), w.1, ((w.1 + n : Nat) : Int)⟩]), ⟨htk.1, skA_stop s _⟩, (by simp only; omega), ?_⟩
    try simp only [maskL, setsL, putsO, putO, mB, List.set_cons_zero, List.set_cons_succ, seval, Tok.cells, hb1, hb2, List.map_append, bL, List.length_append, hi, hw1, ha, hb]
    exact Weak.mk (by simp only [go_sem, Le.refl, Le.any, Le.slNil, Int.natCast_add, Int.cast_ofNat_Int, Int.natCast_one]) (fun _ _ h => h) rfl rfl
  ·
   have hi : ¬ w.1 < s.size := by simpa using hb15
   refine AWp_exit ?_
   simp only [thenQ, blockQ, noGotoQ, bA, Nat.reduceEqDiff, ↓reduceIte]
   refine y0 _ ?_
   try clear y0 Y0
   have hb3 : (w.2.length + 1) * 40 ≤ 140737488355328 := by omega
   have hb4 : w.2.length + 1 ≤ maxLen := by (simp only [maxLen]; omega)
   refine AWp_seqK fun Y0 y0 => ?_
   refine AWp_region ?_
   iterate 7 (refine aops_chunk 1 fun Q0 q0 => ?_; simp only [↓bO, go_sem, seval, Tok.cells, hb3, hb4]; refine q0 _ ?_; clear q0 Q0; simp only [go_sem])
   refine aops_chunk 1 fun Q0 q0 => ?_
   simp only [↓bO, go_sem, seval, ↓bs1_1, ↓bs1_2, ↓bs1_3, ↓bs1_4, ↓bs1_5, ↓bs1_6, ↓bs1_7, ↓bs1_8, ↓bs1_9, ↓bs1_10, ↓bs1_11, ↓bs1_12, Tok.cells, hb3, hb4]
   iterate 3 (refine q0 _ ?_; clear q0 Q0; simp only [go_sem]; refine aops_chunk 1 fun Q0 q0 => ?_; simp only [↓bO, go_sem, seval, Tok.cells, hb3, hb4])
   refine q0 _ ?_
   clear q0 Q0
   simp only [go_sem]
   simp only [↓bO, go_sem, seval, Tok.cells, hb3, hb4]
   refine y0 _ ?_
   try clear y0 Y0
   refine AWp_ret ?_
   try simp only [thenQ, blockQ, noGotoQ, retQ, aRes, tupOf, bS, bA]
   rw [hw.1.stop hi]
   exact Le.tup ⟨by simp only [List.map_append, List.map_cons, List.map_nil]; exact Le.osl _ _ _, .refl _, .refl _, trivial⟩
def dv (s : ByteArray) : Nat → Int
  | 0 => 0
  | k + 1 => 10 * dv s k + (bt s (2 + k) - 48)
def dgOk (s : ByteArray) (k : Nat) : Bool := dgI (bt s (2 + k)) && !(k == 0 && bt s 2 == 48)
abbrev nuP (s : ByteArray) : Prop := 2 ≤ s.size ∧ s.size ≤ 12 ∧ bt s 0 = 39 ∧ 97 ≤ bt s 1 ∧ bt s 1 ≤ 122
def nuR (s : ByteArray) : Int :=
  if nuP s ∧ ((List.range (s.size - 2)).all fun j => dgOk s j) = true then
    (if 26 * dv s (s.size - 2) + bt s 1 - 97 < 1073741824 then 26 * dv s (s.size - 2) + bt s 1 - 97 else -1)
  else -1
end Go.Proofs.YtkokfdmggdhfmaaDoor
namespace Go.Proofs.YtkokfdmggdhfmaaDoor
open Go Go.RowKit
set_option linter.unusedSimpArgs false
set_option linter.unnecessarySimpa false
set_option linter.unusedVariables false
abbrev bl (s : ByteArray) : List UInt8 := s.data.toList
theorem bl_len (s : ByteArray) : (bl s).length = s.size := Array.length_toList
def Wst (s : ByteArray) (i j : Nat) (ts : List Vw) : Prop := ∀ (f : Nat) (out : List Tok), s.size - i < f → ∃ f' out', s.size - j < f' ∧ out'.map vw = out.map vw ++ ts ∧ wdF s f i out = wdF s f' j out'
variable {s : ByteArray}
end Go.Proofs.YtkokfdmggdhfmaaDoor
namespace Go.Proofs.YtkokfdmggdhfmaaDoor
open Go Go.RowKit
set_option linter.unusedSimpArgs false
set_option linter.unnecessarySimpa false
set_option linter.unusedVariables false
open Go.Lib (decDigits decFrom digitVal)
theorem dec_fold : ∀ (l : List UInt8) (a : Nat), (∀ c ∈ l, 48 ≤ c.toNat ∧ c.toNat ≤ 57) → ∃ v : Nat, decFrom a l = some v ∧ (v : Int) = l.foldl (fun n c => 10 * n + ((c.toNat : Int) - 48)) (a : Int) ∧ v + 1 ≤ (a + 1) * 10 ^ l.length
  | [], a, _ => ⟨a, rfl, rfl, by simp⟩
  | c :: l, a, h => by
    have hc := h c (by simp)
    have hd : digitVal c = some (c.toNat - 48) := by unfold digitVal; rw [if_pos hc]
    obtain ⟨v, h1, h2, h3⟩ := dec_fold l (a * 10 + (c.toNat - 48)) (fun x hx => h x (by simp [hx]))
    refine ⟨v, ?_, ?_, ?_⟩
    · simp only [decFrom, hd, h1]
    · rw [h2, List.foldl_cons]
      congr 1
      omega
    · have h4 : (a * 10 + (c.toNat - 48) + 1) ≤ (a + 1) * 10 := by omega
      have h5 := Nat.mul_le_mul_right (10 ^ l.length) h4
      rw [List.length_cons, Nat.pow_succ, Nat.mul_comm (10 ^ l.length) 10, ← Nat.mul_assoc]
      omega
def numS (s : ByteArray) : Prop := bl s ≠ [] ∧ (bl s).length ≤ 9 ∧ ∀ c ∈ bl s, 48 ≤ c.toNat ∧ c.toNat ≤ 57
theorem num_atoi {s : ByteArray} (h : numS s) : Lib.atoiAll (bl s) = .ok (nmV s) ∧ 0 ≤ nmV s ∧ nmV s < 1000000000 := by
  obtain ⟨h1, h2, h3⟩ := h
  obtain ⟨v, hv, he, hb⟩ := dec_fold (bl s) 0 h3
  have hn : nmV s = (v : Int) := he.symm
  have hp : 10 ^ (bl s).length ≤ 10 ^ 9 := Nat.pow_le_pow_right (by decide) h2
  rw [hn]
  refine ⟨?_, by omega, by omega⟩
  rw [Lib.atoiAll_short _ (by omega)]
  cases hd : bl s with
  | nil => exact absurd hd h1
  | cons c r =>
    have hc := h3 c (by rw [hd]; simp)
    have g1 : ¬ c = 45 := fun e => by rw [e] at hc; exact absurd hc.1 (by decide)
    have g2 : ¬ c = 43 := fun e => by rw [e] at hc; exact absurd hc.1 (by decide)
    rw [hd] at hv
    simp only [Lib.atoi, beq_iff_eq, g1, g2, if_false, Lib.decNat, List.isEmpty_cons, Bool.false_eq_true, hv, Option.map_some, Lib.NumEnd.ofOption]
section
variable {E : Nat → Int → Rdx} {l : List Tok} {m n : Int} {i : Nat}
theorem isT_tk {k : Int} {s : ByteArray} (h : isT l (i : Int) k s = true) : (tk l i).k = k ∧ (tk l i).s = s := by
  have hl := isT_ltN h
  obtain ⟨t, ht⟩ : ∃ t, l[i]? = some t := ⟨_, List.getElem?_eq_getElem hl⟩
  rw [tk_at ht]
  by_cases hk : t.k = k
  · rw [isT_yes (by omega) (by simpa using ht) hk] at h
    exact ⟨hk, eqS_iff.1 h⟩
  · rw [isT_no (by omega) (by simpa using ht) hk] at h
    exact absurd h (by simp)
theorem kdT_tk {k : Int} (h : kdT l i k = true) : (tk l i).k = k := by
  unfold kdT at h
  simp at h
  exact h.2
theorem at_open (h : isT l (i : Int) 4 bOpen = true) : atR E l m i n = brR E l m i n := by
  have hb : beg l i = true := by unfold beg; rw [h]; simp
  obtain ⟨h1, h2⟩ := isT_tk h
  unfold atR
  rw [if_pos hb, if_neg (by rw [h1]; decide), if_neg (by rw [h1]; decide), if_neg (by rw [h2]; decide), if_pos h2]
theorem at_name (h : kdT l i 1 = true) : atR E l m i n = ⟨tm 1 (tk l i).s 0 [] (sp l i), (tk l i).a, (tk l i).b, i + 1, 0⟩ := by
  have hb : beg l i = true := by unfold beg; rw [h]; simp
  unfold atR
  rw [if_pos hb, if_pos (kdT_tk h)]
theorem at_num (h : kdT l i 2 = true) : atR E l m i n = ⟨tm 2 ByteArray.empty (nmV (tk l i).s) [] (sp l i), (tk l i).a, (tk l i).b, i + 1, 0⟩ := by
  have hb : beg l i = true := by unfold beg; rw [h]; simp
  unfold atR
  rw [if_pos hb, if_neg (by rw [kdT_tk h]; decide), if_pos (kdT_tk h)]
theorem at_true (h : isT l (i : Int) 3 bTrue = true) : atR E l m i n = ⟨tm 3 ByteArray.empty 1 [] (sp l i), (tk l i).a, (tk l i).b, i + 1, 0⟩ := by
  have hb : beg l i = true := by unfold beg; rw [show isT l (i : Int) 3 ⟨#[116, 114, 117, 101]⟩ = true from h]; simp
  obtain ⟨h1, h2⟩ := isT_tk h
  unfold atR
  rw [if_pos hb, if_neg (by rw [h1]; decide), if_neg (by rw [h1]; decide), if_pos h2]
theorem at_false (h : isT l (i : Int) 3 bFalse = true) : atR E l m i n = ⟨tm 3 ByteArray.empty 0 [] (sp l i), (tk l i).a, (tk l i).b, i + 1, 0⟩ := by
  have hb : beg l i = true := by unfold beg; rw [show isT l (i : Int) 3 ⟨#[102, 97, 108, 115, 101]⟩ = true from h]; simp
  obtain ⟨h1, h2⟩ := isT_tk h
  unfold atR
  rw [if_pos hb, if_neg (by rw [h1]; decide), if_neg (by rw [h1]; decide), if_neg (by rw [h2]; decide), if_neg (by rw [h2]; decide)]
theorem beg_last (h : beg l i = true) (h1 : kdT l i 1 = false) (h2 : kdT l i 2 = false) (h3 : isT l (i : Int) 3 bTrue = false) (h4 : isT l (i : Int) 4 bOpen = false) : isT l (i : Int) 3 bFalse = true := by
  unfold beg at h
  rw [h1, h2, h4, show isT l (i : Int) 3 ⟨#[116, 114, 117, 101]⟩ = false from h3] at h
  show isT l (i : Int) 3 ⟨#[102, 97, 108, 115, 101]⟩ = true
  simpa using h
end
end Go.Proofs.YtkokfdmggdhfmaaDoor
namespace Go.Proofs.YtkokfdmggdhfmaaDoor
open Go Go.RowKit
set_option maxRecDepth 100000
set_option maxHeartbeats 4000000
set_option linter.unusedSimpArgs false
set_option linter.unnecessarySimpa false
set_option linter.unusedVariables false
attribute [local irreducible] aops dRun
def cutP (s p : ByteArray) : ByteArray := ⟨(Lib.trimPrefix s.data.toList p.data.toList).toArray⟩
def hasP (s p : ByteArray) : Bool := Lib.hasPrefix s.data.toList p.data.toList
def pC (s : ByteArray) (b : Bool) : List AV := [.v (.string s), .v (.bool b)]
def PCalls4 (f : Nat) (args : List AV) (s : ByteArray) (b : Bool) (R : AV) (s' : ByteArray) (b' : Bool) : Prop :=
  ACalls Tryd.prog f args [(0, .cells 52 (pC s b))] 1 fun r os n => (r = R ∧ os = [(0, .cells 52 (pC s' b'))]) ∧ n = 1
end Go.Proofs.YtkokfdmggdhfmaaDoor
namespace Go.Proofs.YtkokfdmggdhfmaaDoor
open Go Go.RowKit
set_option linter.unusedSimpArgs false
set_option linter.unnecessarySimpa false
set_option linter.unusedVariables false
abbrev PwR := Ty × ByteArray × Bool
def pwIn (c : Int) : Bool := decide (c = 39 ∨ (97 ≤ c ∧ c ≤ 122) ∨ (48 ≤ c ∧ c ≤ 57))
def pwNum (s : ByteArray) : Int := if 0 ≤ nuR s then nuR s else 0
def pwName (s : ByteArray) : PwR := (.mk 1 (pwNum (s.extract 0 (runN s 0 pwIn))) [], s.extract (runN s 0 pwIn) s.size, !decide (0 ≤ nuR (s.extract 0 (runN s 0 pwIn))))
def pwRest (W : ByteArray → PwR) : Nat → List Ty → ByteArray → Bool → List Ty × ByteArray × Bool
  | 0, acc, s, b => (acc, s, b)
  | n + 1, acc, s, b => if b = false ∧ hasP s bSt = true then pwRest W n (acc ++ [(W (cutP s bSt)).1]) (W (cutP s bSt)).2.1 (W (cutP s bSt)).2.2 else (acc, s, b)
def pwOne (l : List Ty) : Ty := match l with
  | [t] => t
  | l => .mk 5 0 l
def pwEnd (r : List Ty × ByteArray × Bool) : PwR := (pwOne r.1, if r.2.2 = false ∧ hasP r.2.1 bRp = true then cutP r.2.1 bRp else r.2.1, !decide (r.2.2 = false ∧ hasP r.2.1 bRp = true))
def pwInner (W : ByteArray → PwR) (s : ByteArray) : PwR := pwEnd (pwRest W (s.size + 1) [(W s).1] (W s).2.1 (W s).2.2)
def pwHead (W : ByteArray → PwR) (s : ByteArray) : PwR :=
  if hasP s bInt = true then (.mk 2 0 [], cutP s bInt, false) else if hasP s bBool = true then (.mk 3 0 [], cutP s bBool, false)
  else if hasP s bLp = true then pwInner W (cutP s bLp) else pwName s
def pwTail (W : ByteArray → PwR) (r : PwR) : PwR := if r.2.2 = false ∧ hasP r.2.1 bAr = true then (.mk 4 0 [r.1, (W (cutP r.2.1 bAr)).1], (W (cutP r.2.1 bAr)).2) else r
def pwF : Nat → ByteArray → PwR
  | 0, s => (.mk 0 0 [], s, true)
  | f + 1, s => pwTail (pwF f) (pwHead (pwF f) s)
theorem ex_size (s : ByteArray) {a b : Nat} (h : a ≤ b) (h2 : b ≤ s.size) : (s.extract a b).size = b - a := by
  rw [ByteArray.size_extract]; omega
section
variable {W : ByteArray → PwR}
end
def OkH (r : ByteArray) : Prop := (bl r).head? = none ∨ (bl r).head? = some 41 ∨ (bl r).head? = some 32
section
variable {f : Nat}
def PwA (T : Ty) : Prop := ∀ (f : Nat) (r : ByteArray), T.btx.size ≤ f → OkH r → pwHead (pwF f) (T.btx ++ r) = (T, r, false)
end
end Go.Proofs.YtkokfdmggdhfmaaDoor
namespace Go.Proofs.YtkokfdmggdhfmaaDoor
open Go Go.Shelf
def Tryd.laysC172_ren : Go.Shelf.Ren := ⟨fun | 172 => 72 | 244 => 87 | 245 => 88 | 247 => 99 | 279 => 100 | 280 => 101 | 281 => 102 | 282 => 103 | 287 => 113 | 316 => 114 | 171 => 60 | 205 => 115 | 321 => 122 | 322 => 123 | 243 => 73 | 246 => 89 | 283 => 104 | 284 => 105 | 285 => 106 | 286 => 107 | 129 => 117 | 317 => 116 | 318 => 118 | 319 => 119 | 320 => 120 | 337 => 124 | 338 => 125 | n => n, fun | 9 => 9 | 3 => 3 | 75 => 97 | 76 => 98 | 4 => 4 | 5 => 5 | 167 => 131 | 37 => 92 | 0 => 0 | 85 => 132 | 2 => 2 | 168 => 134 | 53 => 138 | 175 => 157 | 46 => 159 | 210 => 162 | 127 => 109 | 145 => 175 | 143 => 173 | 21 => 21 | 171 => 137 | 173 => 141 | 212 => 166 | 51 => 128 | 20 => 20 | 213 => 167 | 232 => 177 | 233 => 178 | 80 => 100 | n => n, fun | 15 => 3 | 16 => 4 | 17 => 5 | 18 => 6 | 19 => 7 | n => n⟩
theorem Tryd.laysC172 : Go.Proofs.LaysC.n172 Tryd.prog Tryd.laysC172_ren := {
  mixed := by kernel_rfl
  f129 := Tryd.func117.trans (congrArg some (by kernel_rfl))
  f171 := Tryd.func60.trans (congrArg some (by kernel_rfl))
  f172 := Tryd.func72.trans (congrArg some (by kernel_rfl))
  f205 := Tryd.func115.trans (congrArg some (by kernel_rfl))
  f243 := Tryd.func73.trans (congrArg some (by kernel_rfl))
  f244 := Tryd.func87.trans (congrArg some (by kernel_rfl))
  f245 := Tryd.func88.trans (congrArg some (by kernel_rfl))
  f246 := Tryd.func89.trans (congrArg some (by kernel_rfl))
  f247 := Tryd.func99.trans (congrArg some (by kernel_rfl))
  f279 := Tryd.func100.trans (congrArg some (by kernel_rfl))
  f280 := Tryd.func101.trans (congrArg some (by kernel_rfl))
  f281 := Tryd.func102.trans (congrArg some (by kernel_rfl))
  f282 := Tryd.func103.trans (congrArg some (by kernel_rfl))
  f283 := Tryd.func104.trans (congrArg some (by kernel_rfl))
  f284 := Tryd.func105.trans (congrArg some (by kernel_rfl))
  f285 := Tryd.func106.trans (congrArg some (by kernel_rfl))
  f286 := Tryd.func107.trans (congrArg some (by kernel_rfl))
  f287 := Tryd.func113.trans (congrArg some (by kernel_rfl))
  f316 := Tryd.func114.trans (congrArg some (by kernel_rfl))
  f317 := Tryd.func116.trans (congrArg some (by kernel_rfl))
  f318 := Tryd.func118.trans (congrArg some (by kernel_rfl))
  f319 := Tryd.func119.trans (congrArg some (by kernel_rfl))
  f320 := Tryd.func120.trans (congrArg some (by kernel_rfl))
  f321 := Tryd.func122.trans (congrArg some (by kernel_rfl))
  f322 := Tryd.func123.trans (congrArg some (by kernel_rfl))
  f337 := Tryd.func124.trans (congrArg some (by kernel_rfl))
  f338 := Tryd.func125.trans (congrArg some (by kernel_rfl))
  t0 := Tryd.underlying0
  a0 := Tryd.isAgg0
  z0 := Tryd.sizeOf0
  v0 := Tryd.zeroValue0
  t2 := Tryd.underlying2
  a2 := Tryd.isAgg2
  z2 := Tryd.sizeOf2
  v2 := Tryd.zeroValue2
  t3 := Tryd.underlying3
  a3 := Tryd.isAgg3
  z3 := Tryd.sizeOf3
  v3 := Tryd.zeroValue3
  t4 := Tryd.underlying4
  a4 := Tryd.isAgg4
  z4 := Tryd.sizeOf4
  v4 := Tryd.zeroValue4
  t5 := Tryd.underlying5
  a5 := Tryd.isAgg5
  z5 := Tryd.sizeOf5
  v5 := Tryd.zeroValue5
  t9 := Tryd.underlying9
  a9 := Tryd.isAgg9
  z9 := Tryd.sizeOf9
  v9 := Tryd.zeroValue9
  t20 := Tryd.underlying20
  a20 := Tryd.isAgg20
  z20 := Tryd.sizeOf20
  v20 := Tryd.zeroValue20
  t21 := Tryd.underlying21
  a21 := Tryd.isAgg21
  z21 := Tryd.sizeOf21
  v21 := Tryd.zeroValue21
  t37 := Tryd.underlying92
  a37 := Tryd.isAgg92
  z37 := Tryd.sizeOf92
  v37 := Tryd.zeroValue92
  t46 := Tryd.underlying159
  a46 := Tryd.isAgg159
  z46 := Tryd.sizeOf159
  v46 := Tryd.zeroValue159
  t51 := Tryd.underlying128
  a51 := Tryd.isAgg128
  z51 := Tryd.sizeOf128
  v51 := Tryd.zeroValue128
  t53 := Tryd.underlying138
  a53 := Tryd.isAgg138
  z53 := Tryd.sizeOf138
  v53 := Tryd.zeroValue138
  t75 := Tryd.underlying97
  a75 := Tryd.isAgg97
  z75 := Tryd.sizeOf97
  v75 := Tryd.zeroValue97
  t76 := Tryd.underlying98
  a76 := Tryd.isAgg98
  z76 := Tryd.sizeOf98
  v76 := Tryd.zeroValue98
  t85 := Tryd.underlying132
  a85 := Tryd.isAgg132
  z85 := Tryd.sizeOf132
  v85 := Tryd.zeroValue132
  t127 := Tryd.underlying109
  a127 := Tryd.isAgg109
  z127 := Tryd.sizeOf109
  v127 := Tryd.zeroValue109
  t143 := Tryd.underlying173
  a143 := Tryd.isAgg173
  z143 := Tryd.sizeOf173
  v143 := Tryd.zeroValue173
  t145 := Tryd.underlying175
  a145 := Tryd.isAgg175
  z145 := Tryd.sizeOf175
  v145 := Tryd.zeroValue175
  t167 := Tryd.underlying131
  a167 := Tryd.isAgg131
  z167 := Tryd.sizeOf131
  v167 := Tryd.zeroValue131
  t168 := Tryd.underlying134
  a168 := Tryd.isAgg134
  z168 := Tryd.sizeOf134
  v168 := Tryd.zeroValue134
  t171 := Tryd.underlying137
  a171 := Tryd.isAgg137
  z171 := Tryd.sizeOf137
  v171 := Tryd.zeroValue137
  t173 := Tryd.underlying141
  a173 := Tryd.isAgg141
  z173 := Tryd.sizeOf141
  v173 := Tryd.zeroValue141
  t175 := Tryd.underlying157
  a175 := Tryd.isAgg157
  z175 := Tryd.sizeOf157
  v175 := Tryd.zeroValue157
  t210 := Tryd.underlying162
  a210 := Tryd.isAgg162
  z210 := Tryd.sizeOf162
  v210 := Tryd.zeroValue162
  t212 := Tryd.underlying166
  a212 := Tryd.isAgg166
  z212 := Tryd.sizeOf166
  v212 := Tryd.zeroValue166
  t213 := Tryd.underlying167
  a213 := Tryd.isAgg167
  z213 := Tryd.sizeOf167
  t232 := Tryd.underlying177
  a232 := Tryd.isAgg177
  z232 := Tryd.sizeOf177
  v232 := Tryd.zeroValue177
  t233 := Tryd.underlying178
  a233 := Tryd.isAgg178
  z233 := Tryd.sizeOf178
  v233 := Tryd.zeroValue178
  g15 := by kernel_rfl
  g16 := by kernel_rfl
  g17 := by kernel_rfl
  g18 := by kernel_rfl
  g19 := by kernel_rfl
  t80 := Tryd.underlying100
  a80 := Tryd.isAgg100
  z80 := Tryd.sizeOf100
  v80 := Tryd.zeroValue100
  i0 := by kernel_rfl
  i2 := by kernel_rfl
  i3 := by kernel_rfl
  i4 := by kernel_rfl
  i5 := by kernel_rfl
  i9 := by kernel_rfl
  i20 := by kernel_rfl
  i21 := by kernel_rfl
  i37 := by kernel_rfl
  i46 := by kernel_rfl
  i51 := by kernel_rfl
  i53 := by kernel_rfl
  i75 := by kernel_rfl
  i76 := by kernel_rfl
  i80 := by kernel_rfl
  i85 := by kernel_rfl
  i127 := by kernel_rfl
  i143 := by kernel_rfl
  i145 := by kernel_rfl
  i167 := by kernel_rfl
  i168 := by kernel_rfl
  i171 := by kernel_rfl
  i173 := by kernel_rfl
  i175 := by kernel_rfl
  i210 := by kernel_rfl
  i212 := by kernel_rfl
  i232 := by kernel_rfl
  i233 := by kernel_rfl
  m15 := by kernel_rfl
  m16 := by kernel_rfl
  m17 := by kernel_rfl
  m18 := by kernel_rfl
  m19 := by kernel_rfl
  c0 := by kernel_rfl
  c2 := by kernel_rfl
  c3 := by kernel_rfl
  c4 := by kernel_rfl
  c5 := by kernel_rfl
  c9 := by kernel_rfl
  c20 := by kernel_rfl
  c21 := by kernel_rfl
  c37 := by kernel_rfl
  c46 := by kernel_rfl
  c51 := by kernel_rfl
  c53 := by kernel_rfl
  c75 := by kernel_rfl
  c76 := by kernel_rfl
  c80 := by kernel_rfl
  c85 := by kernel_rfl
  c127 := by kernel_rfl
  c143 := by kernel_rfl
  c145 := by kernel_rfl
  c167 := by kernel_rfl
  c168 := by kernel_rfl
  c171 := by kernel_rfl
  c173 := by kernel_rfl
  c175 := by kernel_rfl
  c210 := by kernel_rfl
  c212 := by kernel_rfl
  c213 := by kernel_rfl
  c232 := by kernel_rfl
  c233 := by kernel_rfl }
open Go.RowKit in
theorem Tryd.strconv_Atoi_ok (s : ByteArray) (hmax : s.size ≤ 9223372036854775806) (v : Int) (h : Lib.atoiAll s.data.toList = .ok v) (w : World) :
    Calls Tryd.prog 72 #[.string s] w fun e w' => e = .returned (.tuple #[.int .i64 v, .nilIface]) ∧ (w' = w ∨ ∃ t, w' = Lib.bytesWorld w 5 t) := Any.strconv_Atoi_ok Tryd.laysC172 s hmax v h w
end Go.Proofs.YtkokfdmggdhfmaaDoor
namespace Go.Proofs.YtkokfdmggdhfmaaDoor
open Go Go.RowKit
set_option maxRecDepth 100000
set_option maxHeartbeats 4000000
set_option linter.unusedSimpArgs false
set_option linter.unnecessarySimpa false
set_option linter.unusedVariables false
attribute [local irreducible] aops dRun
theorem Atoi_ok_pure (s : ByteArray) (hs : s.size ≤ 1048576) (v : Int) (h : Lib.atoiAll (bl s) = .ok v) : APure Tryd.prog 72 [.v (.string s)] (.tup [.v (.int .i64 v), .v .nilIface]) := by
  refine APure.ofCalls ⟨_, Tryd.func72, by kernel_rfl, by kernel_rfl⟩ (.cons (.v _) .nil) (.tup (.cons (.v _) (.cons (.v _) .nil))) fun E A w vs hgl hA hr => ?_
  obtain ⟨u, rfl, h1⟩ := hr.one
  cases h1
  refine (Tryd.strconv_Atoi_ok s (by omega) v h w).mono ?_
  rintro e w' ⟨rfl, hw⟩
  refine ⟨_, rfl, ?_, .tup rfl fun i c u hc hu => ?_⟩
  · rcases hw with rfl | ⟨t, rfl⟩
    · exact Below.refl _ _
    · exact Lib.bytesWorld_below w _ _
  match i, hc, hu with
  | 0, hc, hu => cases hc; cases hu; exact .v _
  | 1, hc, hu => cases hc; cases hu; exact .v _
theorem kind_g (l : List Tok) (m : Int) (i : Nat) (k : Int) (hl : l.length ≤ 1048576) : ∃ (j : Nat) (w : Tok) (b : Bool), QCalls 65 [.ptr 0 0, .v (.int .i64 k)] l m i 0 (.tup [.agg w.cells, .v (.bool b)]) j 0 ∧ (kdT l i k = true ∧ b = true ∧ w = tk l i ∧ j = i + 1 ∨ kdT l i k = false ∧ b = false ∧ i = j) := by
  cases h : kdT l i k with
  | true => exact ⟨_, _, _, kind_yes l m i 0 k hl h, .inl ⟨rfl, rfl, rfl, rfl⟩⟩
  | false => exact ⟨_, _, _, kind_no l m i 0 k hl h, .inr ⟨rfl, rfl, rfl⟩⟩
def atP (k : Int) (s : ByteArray) (n : Int) (p : Int × Int) : Pt := (tm k s n [] p, p)
theorem atP_le (k : Int) (s : ByteArray) (n a b : Int) : Le (.agg [.v (.int .i64 k), .v (.string s), .v (.int .i64 n), .v (.int .i64 0), .v (.int .i64 0), .v (.slice none 0 0), .v (.slice none 0 0), .v (.int .i64 a), .v (.int .i64 b), .v (.int .i64 a), .v (.int .i64 b)]) (.agg (partC (atP k s n (a, b)))) :=
  Le.agg ⟨.refl _, .refl _, .refl _, .refl _, .refl _, Le.slNil 3, Le.slNil 9, .refl _, .refl _, .refl _, .refl _, trivial⟩
def GoodT (l : List Tok) : Prop := ∀ i, kdT l i 2 = true → numS (tk l i).s
theorem atom_q (l : List Tok) (m : Int) (f i : Nat) (n : Int) (hl : l.length ≤ 100000) (hG : GoodT l) (hP : PxOk l m f) (hR : ROk l m f) (hb : beg l i = true) (hf : l.length - i ≤ f) (h3 : -1000000 ≤ n) (h4 : n + (l.length - i : Nat) ≤ 700000) : QEx 97 [.ptr 0 0, .v (.int .i64 n)] l m (i) (0) (atR (rx l m f) l m i n) := by
  generalize hr : atR (rx l m f) l m i n = r
  have hl' : l.length ≤ 1048576 := by omega
  have hw : IntKind.i64.wrap (n + 1) = n + 1 := by (rw [wrap_in (by omega) (by omega)])
  have hi := beg_lt hb
  obtain ⟨j1, w1, b1, hK1, hk1⟩ := kind_g l m i 1 hl'
  obtain ⟨j2, w2, b2, hK2, hk2⟩ := kind_g l m i 2 hl'
  refine ACalls.clean (C := EXC l m r) ?_
  refine ACalls_intro Tryd.func97 (by kernel_rfl) rfl (by rw [Tryd.ntmps97]; simp) (fun hm => ?_)
  simp only [Tryd.ntmps97, Tryd.results97, List.length_cons, List.length_nil, Nat.reduceAdd, Nat.reduceSub, List.replicate_succ, List.replicate_zero, List.cons_append, List.nil_append]
  refine AWp_seqK fun Y0 y0 => ?_
  refine AWp_region ?_
  simp only [↓bO, go_sem, seval, Tok.cells, qC, partC, List.take, List.drop, enumO, hw]
  refine y0 _ ?_
  try clear y0 Y0
  refine AWp_seqK fun Y0 y0 => ?_
  refine AWp_region ?_
  iterate 3 (refine aops_chunk 1 fun Q0 q0 => ?_; simp only [↓bO, go_sem, seval, Tok.cells, qC, partC, List.take, List.drop, enumO, hw]; refine q0 _ ?_; clear q0 Q0; simp only [go_sem])
  refine aops_chunk 1 fun Q0 q0 => ?_
  simp only [↓bO, go_sem, seval, Tok.cells, qC, partC, List.take, List.drop, enumO, hw]
  refine QCalls.at (k := 0) (here_q l m i 0 hl') ?_ (.agg (.cons (.v _) (.cons (.v _) .nil))) rfl (by first | omega | (simp only; omega)) ?_
  · exact ⟨.ptr rfl, trivial⟩
  simp only [putO, Nat.reduceEqDiff, ↓reduceIte]
  try simp only [bS, bA, thenQ, blockQ, noGotoQ]
  refine q0 _ ?_
  clear q0 Q0
  simp only [go_sem]
  refine aops_chunk 1 fun Q0 q0 => ?_
  simp only [↓bO, go_sem, seval, Tok.cells, qC, partC, List.take, List.drop, enumO, hw]
  refine q0 _ ?_
  clear q0 Q0
  simp only [go_sem]
  simp only [↓bO, go_sem, seval, Tok.cells, qC, partC, List.take, List.drop, enumO, hw]
  refine y0 _ ?_
  try clear y0 Y0
  refine AWp_seqK fun Y0 y0 => ?_
  refine AWp_region ?_
  iterate 3 (refine aops_chunk 1 fun Q0 q0 => ?_; simp only [↓bO, go_sem, seval, Tok.cells, qC, partC, List.take, List.drop, enumO, hw]; refine q0 _ ?_; clear q0 Q0; simp only [go_sem])
  simp only [↓bO, go_sem, seval, Tok.cells, qC, partC, List.take, List.drop, enumO, hw]
  refine y0 _ ?_
  try clear y0 Y0
  refine AWp_seqK fun Y0 y0 => ?_
  refine AWp_seqK fun Y1 y1 => ?_
  refine AWp_region ?_
  iterate 3 (refine aops_chunk 1 fun Q0 q0 => ?_; simp only [↓bO, go_sem, seval, Tok.cells, qC, partC, List.take, List.drop, enumO, hw]; refine q0 _ ?_; clear q0 Q0; simp only [go_sem])
  simp only [↓bO, go_sem, seval, Tok.cells, qC, partC, List.take, List.drop, enumO, hw]
  refine QCalls.at (k := 0) (take_q l m i 0 4 bOpen hl') ?_ (.v _) rfl (by first | omega | (simp only; omega)) ?_
  · exact ⟨.ptr rfl, .v _, .v _, trivial⟩
  simp only [putO, Nat.reduceEqDiff, ↓reduceIte]
  try simp only [bS, bA, thenQ, blockQ, noGotoQ]
  refine y1 _ ?_
  try clear y1 Y1
  refine AWp_cond rfl (fun hb20 => ?_) (fun hb20 => ?_)
  ·
   have a0 : isT l (i : Int) 4 bOpen = true := hb20
   simp only [a0, if_true]
   rw [at_open a0] at hr
   subst hr
   refine AWp_seqK fun Y1 y1 => ?_
   refine AWp_region ?_
   iterate 4 (refine aops_chunk 1 fun Q0 q0 => ?_; simp only [↓bO, go_sem, seval, Tok.cells, qC, partC, List.take, List.drop, enumO, hw]; refine q0 _ ?_; clear q0 Q0; simp only [go_sem])
   refine aops_chunk 1 fun Q0 q0 => ?_
   simp only [↓bO, go_sem, seval, Tok.cells, qC, partC, List.take, List.drop, enumO, hw]
   refine QEx.at (k := 0) (inner_q l m f i n hl hP hR hi hf h3 h4) ?_ rfl (by first | omega | (simp only; omega)) ?_
   · exact ⟨.ptr rfl, .v _, .data (.agg (.cons (.v _) (.cons (.v _) .nil))), trivial⟩
   intro q hq
   simp only [partC, putO, Nat.reduceEqDiff, ↓reduceIte]
   try simp only [bS, bA, thenQ, blockQ, noGotoQ]
   refine q0 _ ?_
   clear q0 Q0
   simp only [go_sem]
   simp only [↓bO, go_sem, seval, Tok.cells, qC, partC, List.take, List.drop, enumO, hw]
   refine y1 _ ?_
   try clear y1 Y1
   refine AWp_ret ?_
   try simp only [thenQ, blockQ, noGotoQ, retQ, aRes, tupOf, bS, bA, aLoad, getO, pack, bL, Nat.reduceAdd, Nat.reduceLeDiff, Nat.reduceEqDiff, ↓reduceIte, ti102, tyX, Tok.cells, List.length_map, qC, partC, List.take, List.drop, enumO, hw]
   refine ⟨_, _, ⟨q, ?_, rfl, rfl⟩, .data (.agg (partC_data _)), qUnd (by omega) _ _ _ _, ?_, ?_, by omega⟩
   · exact hq
   · exact Le.refl _
   · first | exact ⟨0, rfl, rfl⟩ | exact ⟨1, rfl, rfl⟩ | exact ⟨2, rfl, rfl⟩ | exact ⟨3, rfl, rfl⟩ | exact ⟨4, rfl, rfl⟩ | exact ⟨5, rfl, rfl⟩ | exact ⟨6, rfl, rfl⟩ | exact ⟨7, rfl, rfl⟩ | exact ⟨8, rfl, rfl⟩ | exact ⟨9, rfl, rfl⟩
  ·
   have a0 : isT l (i : Int) 4 bOpen = false := hb20
   simp only [a0, Bool.false_eq_true, if_false]
   refine AWp_skip ?_
   try simp only [thenQ, blockQ, noGotoQ]
   refine y0 _ ?_
   try clear y0 Y0
   refine AWp_seqK fun Y0 y0 => ?_
   refine AWp_seqK fun Y1 y1 => ?_
   refine AWp_region ?_
   iterate 3 (refine aops_chunk 1 fun Q0 q0 => ?_; simp only [↓bO, go_sem, seval, Tok.cells, qC, partC, List.take, List.drop, enumO, hw]; refine q0 _ ?_; clear q0 Q0; simp only [go_sem])
   refine aops_chunk 1 fun Q0 q0 => ?_
   simp only [↓bO, go_sem, seval, Tok.cells, qC, partC, List.take, List.drop, enumO, hw]
   refine QCalls.at (k := 0) hK1 ?_ (.tup (.cons (tokData _) (.cons (.v _) .nil))) rfl (by first | omega | (simp only; omega)) ?_
   · exact ⟨.ptr rfl, .v _, trivial⟩
   simp only [putO, Nat.reduceEqDiff, ↓reduceIte]
   try simp only [bS, bA, thenQ, blockQ, noGotoQ]
   iterate 5 (refine q0 _ ?_; clear q0 Q0; simp only [go_sem]; refine aops_chunk 1 fun Q0 q0 => ?_; simp only [↓bO, go_sem, seval, Tok.cells, qC, partC, List.take, List.drop, enumO, hw])
   refine q0 _ ?_
   clear q0 Q0
   simp only [go_sem]
   simp only [↓bO, go_sem, seval, Tok.cells, qC, partC, List.take, List.drop, enumO, hw]
   refine y1 _ ?_
   try clear y1 Y1
   refine AWp_seqK fun Y1 y1 => ?_
   refine AWp_region ?_
   simp only [↓bO, go_sem, seval, Tok.cells, qC, partC, List.take, List.drop, enumO, hw]
   refine y1 _ ?_
   try clear y1 Y1
   refine AWp_cond rfl (fun hb33 => ?_) (fun hb33 => ?_)
   ·
    obtain ⟨a1, rfl, rfl, rfl⟩ := hk1.resolve_right fun h => by simp [h.2.1] at hb33
    refine AWp_seqK fun Y1 y1 => ?_
    refine AAny_start [] 6 rfl mixed (trivial) rfl ?_
    dsimp only
    refine AAny_takeK 0 rfl (by kernel_rfl) (by kernel_rfl) (by kernel_rfl) (fun _ _ h => h) fun Q0 q0 => ?_
    simp only [↓bO, go_sem, seval, Tok.cells, qC, partC, List.take, List.drop, enumO, hw]
    refine q0 _ ?_
    clear q0 Q0
    refine AAny_takeK 2 rfl (by kernel_rfl) (by kernel_rfl) (by kernel_rfl) (fun _ _ h => h) fun Q0 q0 => ?_
    simp only [↓bO, go_sem, seval, Tok.cells, qC, partC, List.take, List.drop, enumO, hw]
    refine q0 _ ?_
    clear q0 Q0
    refine AAny_all2 (i := 1) (j := 3) (by kernel_rfl) ?_ ?_
    ·
     refine aAt_op rfl rfl fun Q0 q0 => ?_
     simp only [↓bO, go_sem, seval, Tok.cells, qC, partC, List.take, List.drop, enumO, hw]
     refine q0 _ ⟨trivial, ?_⟩
     clear q0 Q0
     refine AAny_all1 (i := 3) (by kernel_rfl) ?_
     ·
      refine aAt_op rfl rfl fun Q0 q0 => ?_
      simp only [↓bO, go_sem, seval, Tok.cells, qC, partC, List.take, List.drop, enumO, hw]
      refine q0 _ ⟨trivial, ?_⟩
      clear q0 Q0
      refine AAny_takeK 4 rfl (by kernel_rfl) (by kernel_rfl) (by kernel_rfl) (fun _ _ h => h) fun Q0 q0 => ?_
      simp only [↓bO, go_sem, seval, Tok.cells, qC, partC, List.take, List.drop, enumO, hw]
      refine q0 _ ?_
      clear q0 Q0
      refine AAny_all1 (i := 5) (by kernel_rfl) ?_
      ·
       refine aAt_op rfl rfl fun Q0 q0 => ?_
       simp only [↓bO, go_sem, seval, Tok.cells, qC, partC, List.take, List.drop, enumO, hw]
       refine q0 _ ⟨trivial, ?_⟩
       clear q0 Q0
       refine AAny_done (by kernel_rfl) ?_
       simp only [thenQ, blockQ, noGotoQ]
       refine y1 _ ?_
       try clear y1 Y1
       refine AWp_seqK fun Y1 y1 => ?_
       refine AWp_region ?_
       iterate 3 (refine aops_chunk 1 fun Q0 q0 => ?_; simp only [↓bO, go_sem, seval, Tok.cells, qC, partC, List.take, List.drop, enumO, hw]; refine q0 _ ?_; clear q0 Q0; simp only [go_sem])
       simp only [↓bO, go_sem, seval, Tok.cells, qC, partC, List.take, List.drop, enumO, hw]
       refine y1 _ ?_
       try clear y1 Y1
       refine AWp_ret ?_
       try simp only [thenQ, blockQ, noGotoQ, retQ, aRes, tupOf, bS, bA, aLoad, getO, pack, bL, Nat.reduceAdd, Nat.reduceLeDiff, Nat.reduceEqDiff, ↓reduceIte, ti102, tyX, Tok.cells, List.length_map, qC, partC, List.take, List.drop, enumO, hw]
       rw [at_name a1] at hr
       subst hr
       refine ⟨_, _, ⟨atP 1 (tk l i).s 0 (sp l i), ?_, rfl, rfl⟩, .data (.agg (partC_data _)), qUnd (by omega) _ _ _ _, ?_, ?_, by omega⟩
       · exact fun _ => rfl
       · exact atP_le _ _ _ _ _
       · first | exact ⟨0, rfl, rfl⟩ | exact ⟨1, rfl, rfl⟩ | exact ⟨2, rfl, rfl⟩ | exact ⟨3, rfl, rfl⟩ | exact ⟨4, rfl, rfl⟩ | exact ⟨5, rfl, rfl⟩ | exact ⟨6, rfl, rfl⟩ | exact ⟨7, rfl, rfl⟩ | exact ⟨8, rfl, rfl⟩ | exact ⟨9, rfl, rfl⟩
    ·
     refine aAt_op rfl rfl fun Q0 q0 => ?_
     simp only [↓bO, go_sem, seval, Tok.cells, qC, partC, List.take, List.drop, enumO, hw]
     refine q0 _ ⟨trivial, ?_⟩
     clear q0 Q0
     refine AAny_all1 (i := 1) (by kernel_rfl) ?_
     ·
      refine aAt_op rfl rfl fun Q0 q0 => ?_
      simp only [↓bO, go_sem, seval, Tok.cells, qC, partC, List.take, List.drop, enumO, hw]
      refine q0 _ ⟨trivial, ?_⟩
      clear q0 Q0
      refine AAny_takeK 4 rfl (by kernel_rfl) (by kernel_rfl) (by kernel_rfl) (fun _ _ h => h) fun Q0 q0 => ?_
      simp only [↓bO, go_sem, seval, Tok.cells, qC, partC, List.take, List.drop, enumO, hw]
      refine q0 _ ?_
      clear q0 Q0
      refine AAny_all1 (i := 5) (by kernel_rfl) ?_
      ·
       refine aAt_op rfl rfl fun Q0 q0 => ?_
       simp only [↓bO, go_sem, seval, Tok.cells, qC, partC, List.take, List.drop, enumO, hw]
       refine q0 _ ⟨trivial, ?_⟩
       clear q0 Q0
       refine AAny_done (by kernel_rfl) ?_
       simp only [thenQ, blockQ, noGotoQ]
       refine y1 _ ?_
       try clear y1 Y1
       refine AWp_seqK fun Y1 y1 => ?_
       refine AWp_region ?_
       iterate 3 (refine aops_chunk 1 fun Q0 q0 => ?_; simp only [↓bO, go_sem, seval, Tok.cells, qC, partC, List.take, List.drop, enumO, hw]; refine q0 _ ?_; clear q0 Q0; simp only [go_sem])
       simp only [↓bO, go_sem, seval, Tok.cells, qC, partC, List.take, List.drop, enumO, hw]
       refine y1 _ ?_
       try clear y1 Y1
       refine AWp_ret ?_
       try simp only [thenQ, blockQ, noGotoQ, retQ, aRes, tupOf, bS, bA, aLoad, getO, pack, bL, Nat.reduceAdd, Nat.reduceLeDiff, Nat.reduceEqDiff, ↓reduceIte, ti102, tyX, Tok.cells, List.length_map, qC, partC, List.take, List.drop, enumO, hw]
       rw [at_name a1] at hr
       subst hr
       refine ⟨_, _, ⟨atP 1 (tk l i).s 0 (sp l i), ?_, rfl, rfl⟩, .data (.agg (partC_data _)), qUnd (by omega) _ _ _ _, ?_, ?_, by omega⟩
       · exact fun _ => rfl
       · exact atP_le _ _ _ _ _
       · first | exact ⟨0, rfl, rfl⟩ | exact ⟨1, rfl, rfl⟩ | exact ⟨2, rfl, rfl⟩ | exact ⟨3, rfl, rfl⟩ | exact ⟨4, rfl, rfl⟩ | exact ⟨5, rfl, rfl⟩ | exact ⟨6, rfl, rfl⟩ | exact ⟨7, rfl, rfl⟩ | exact ⟨8, rfl, rfl⟩ | exact ⟨9, rfl, rfl⟩
   ·
    obtain ⟨a1, rfl, rfl⟩ := hk1.resolve_left fun h => by simp [h.2.1] at hb33
    refine AWp_skip ?_
    try simp only [thenQ, blockQ, noGotoQ]
    refine y0 _ ?_
    try clear y0 Y0
    refine AWp_seqK fun Y0 y0 => ?_
    refine AWp_seqK fun Y1 y1 => ?_
    refine AWp_region ?_
    iterate 3 (refine aops_chunk 1 fun Q0 q0 => ?_; simp only [↓bO, go_sem, seval, Tok.cells, qC, partC, List.take, List.drop, enumO, hw]; refine q0 _ ?_; clear q0 Q0; simp only [go_sem])
    refine aops_chunk 1 fun Q0 q0 => ?_
    simp only [↓bO, go_sem, seval, Tok.cells, qC, partC, List.take, List.drop, enumO, hw]
    refine QCalls.at (k := 0) hK2 ?_ (.tup (.cons (tokData _) (.cons (.v _) .nil))) rfl (by first | omega | (simp only; omega)) ?_
    · exact ⟨.ptr rfl, .v _, trivial⟩
    simp only [putO, Nat.reduceEqDiff, ↓reduceIte]
    try simp only [bS, bA, thenQ, blockQ, noGotoQ]
    iterate 5 (refine q0 _ ?_; clear q0 Q0; simp only [go_sem]; refine aops_chunk 1 fun Q0 q0 => ?_; simp only [↓bO, go_sem, seval, Tok.cells, qC, partC, List.take, List.drop, enumO, hw])
    refine q0 _ ?_
    clear q0 Q0
    simp only [go_sem]
    simp only [↓bO, go_sem, seval, Tok.cells, qC, partC, List.take, List.drop, enumO, hw]
    refine y1 _ ?_
    try clear y1 Y1
    refine AWp_seqK fun Y1 y1 => ?_
    refine AWp_region ?_
    simp only [↓bO, go_sem, seval, Tok.cells, qC, partC, List.take, List.drop, enumO, hw]
    refine y1 _ ?_
    try clear y1 Y1
    refine AWp_cond rfl (fun hb48 => ?_) (fun hb48 => ?_)
    ·
     obtain ⟨a2, rfl, rfl, rfl⟩ := hk2.resolve_right fun h => by simp [h.2.1] at hb48
     refine AWp_seqK fun Y1 y1 => ?_
     refine AWp_region ?_
     refine aops_chunk 1 fun Q0 q0 => ?_
     simp only [↓bO, go_sem, seval, Tok.cells, qC, partC, List.take, List.drop, enumO, hw]
     refine q0 _ ?_
     clear q0 Q0
     simp only [go_sem]
     simp only [↓bO, go_sem, seval, Tok.cells, qC, partC, List.take, List.drop, enumO, hw]
     refine y1 _ ?_
     try clear y1 Y1
     refine AWp_seqK fun Y1 y1 => ?_
     refine AWp_region ?_
     iterate 2 (refine aops_chunk 1 fun Q0 q0 => ?_; simp only [↓bO, go_sem, seval, Tok.cells, qC, partC, List.take, List.drop, enumO, hw]; refine q0 _ ?_; clear q0 Q0; simp only [go_sem])
     refine aops_chunk 1 fun Q0 q0 => ?_
     simp only [↓bO, go_sem, seval, Tok.cells, qC, partC, List.take, List.drop, enumO, hw]
     refine APure.call (Atoi_ok_pure (tk l i).s (by have := (hG i a2).2.1; unfold bl at this; simp only [Array.length_toList] at this; show (tk l i).s.data.size ≤ 1048576; omega) (nmV (tk l i).s) (num_atoi (hG i a2)).1) ?_
     try simp only [bS, bA, thenQ, blockQ, noGotoQ]
     iterate 4 (refine q0 _ ?_; clear q0 Q0; simp only [go_sem]; refine aops_chunk 1 fun Q0 q0 => ?_; simp only [↓bO, go_sem, seval, Tok.cells, qC, partC, List.take, List.drop, enumO, hw])
     refine q0 _ ?_
     clear q0 Q0
     simp only [go_sem]
     simp only [↓bO, go_sem, seval, Tok.cells, qC, partC, List.take, List.drop, enumO, hw]
     refine y1 _ ?_
     try clear y1 Y1
     refine AWp_seqK fun Y1 y1 => ?_
     refine AWp_region ?_
     iterate 3 (refine aops_chunk 1 fun Q0 q0 => ?_; simp only [↓bO, go_sem, seval, Tok.cells, qC, partC, List.take, List.drop, enumO, hw]; refine q0 _ ?_; clear q0 Q0; simp only [go_sem])
     simp only [↓bO, go_sem, seval, Tok.cells, qC, partC, List.take, List.drop, enumO, hw]
     refine y1 _ ?_
     try clear y1 Y1
     refine AWp_ret ?_
     try simp only [thenQ, blockQ, noGotoQ, retQ, aRes, tupOf, bS, bA, aLoad, getO, pack, bL, Nat.reduceAdd, Nat.reduceLeDiff, Nat.reduceEqDiff, ↓reduceIte, ti102, tyX, Tok.cells, List.length_map, qC, partC, List.take, List.drop, enumO, hw]
     rw [at_num a2] at hr
     subst hr
     refine ⟨_, _, ⟨atP 2 ByteArray.empty (nmV (tk l i).s) (sp l i), ?_, rfl, rfl⟩, .data (.agg (partC_data _)), qUnd (by omega) _ _ _ _, ?_, ?_, by omega⟩
     · exact fun _ => rfl
     · exact atP_le _ _ _ _ _
     · first | exact ⟨0, rfl, rfl⟩ | exact ⟨1, rfl, rfl⟩ | exact ⟨2, rfl, rfl⟩ | exact ⟨3, rfl, rfl⟩ | exact ⟨4, rfl, rfl⟩ | exact ⟨5, rfl, rfl⟩ | exact ⟨6, rfl, rfl⟩ | exact ⟨7, rfl, rfl⟩ | exact ⟨8, rfl, rfl⟩ | exact ⟨9, rfl, rfl⟩
    ·
     obtain ⟨a2, rfl, rfl⟩ := hk2.resolve_left fun h => by simp [h.2.1] at hb48
     refine AWp_skip ?_
     try simp only [thenQ, blockQ, noGotoQ]
     refine y0 _ ?_
     try clear y0 Y0
     refine AWp_seqK fun Y0 y0 => ?_
     refine AWp_region ?_
     refine aops_chunk 1 fun Q0 q0 => ?_
     simp only [↓bO, go_sem, seval, Tok.cells, qC, partC, List.take, List.drop, enumO, hw]
     refine q0 _ ?_
     clear q0 Q0
     simp only [go_sem]
     simp only [↓bO, go_sem, seval, Tok.cells, qC, partC, List.take, List.drop, enumO, hw]
     refine y0 _ ?_
     try clear y0 Y0
     refine AWp_seqK fun Y0 y0 => ?_
     refine AWp_seqK fun Y1 y1 => ?_
     refine AWp_region ?_
     iterate 3 (refine aops_chunk 1 fun Q0 q0 => ?_; simp only [↓bO, go_sem, seval, Tok.cells, qC, partC, List.take, List.drop, enumO, hw]; refine q0 _ ?_; clear q0 Q0; simp only [go_sem])
     simp only [↓bO, go_sem, seval, Tok.cells, qC, partC, List.take, List.drop, enumO, hw]
     refine QCalls.at (k := 0) (take_q l m i 0 3 bTrue hl') ?_ (.v _) rfl (by first | omega | (simp only; omega)) ?_
     · exact ⟨.ptr rfl, .v _, .v _, trivial⟩
     simp only [putO, Nat.reduceEqDiff, ↓reduceIte]
     try simp only [bS, bA, thenQ, blockQ, noGotoQ]
     refine y1 _ ?_
     try clear y1 Y1
     refine AWp_cond rfl (fun hb64 => ?_) (fun hb64 => ?_)
     ·
      have a3 : isT l (i : Int) 3 bTrue = true := hb64
      simp only [a3, if_true]
      refine AWp_region ?_
      refine aops_chunk 1 fun Q0 q0 => ?_
      simp only [↓bO, go_sem, seval, Tok.cells, qC, partC, List.take, List.drop, enumO, hw]
      refine q0 _ ?_
      clear q0 Q0
      simp only [go_sem]
      simp only [↓bO, go_sem, seval, Tok.cells, qC, partC, List.take, List.drop, enumO, hw]
      refine y0 _ ?_
      try clear y0 Y0
      refine AWp_seqK fun Y0 y0 => ?_
      refine AWp_region ?_
      iterate 3 (refine aops_chunk 1 fun Q0 q0 => ?_; simp only [↓bO, go_sem, seval, Tok.cells, qC, partC, List.take, List.drop, enumO, hw]; refine q0 _ ?_; clear q0 Q0; simp only [go_sem])
      simp only [↓bO, go_sem, seval, Tok.cells, qC, partC, List.take, List.drop, enumO, hw]
      refine y0 _ ?_
      try clear y0 Y0
      refine AWp_ret ?_
      try simp only [thenQ, blockQ, noGotoQ, retQ, aRes, tupOf, bS, bA, aLoad, getO, pack, bL, Nat.reduceAdd, Nat.reduceLeDiff, Nat.reduceEqDiff, ↓reduceIte, ti102, tyX, Tok.cells, List.length_map, qC, partC, List.take, List.drop, enumO, hw]
      rw [at_true a3] at hr
      subst hr
      refine ⟨_, _, ⟨atP 3 ByteArray.empty 1 (sp l i), ?_, rfl, rfl⟩, .data (.agg (partC_data _)), qUnd (by omega) _ _ _ _, ?_, ?_, by omega⟩
      · exact fun _ => rfl
      · exact atP_le _ _ _ _ _
      · first | exact ⟨0, rfl, rfl⟩ | exact ⟨1, rfl, rfl⟩ | exact ⟨2, rfl, rfl⟩ | exact ⟨3, rfl, rfl⟩ | exact ⟨4, rfl, rfl⟩ | exact ⟨5, rfl, rfl⟩ | exact ⟨6, rfl, rfl⟩ | exact ⟨7, rfl, rfl⟩ | exact ⟨8, rfl, rfl⟩ | exact ⟨9, rfl, rfl⟩
     ·
      have a3 : isT l (i : Int) 3 bTrue = false := hb64
      simp only [a3, Bool.false_eq_true, if_false]
      have a4 := beg_last hb a1 a2 a3 a0
      refine AWp_region ?_
      refine aops_chunk 1 fun Q0 q0 => ?_
      simp only [↓bO, go_sem, seval, Tok.cells, qC, partC, List.take, List.drop, enumO, hw]
      refine q0 _ ?_
      clear q0 Q0
      simp only [go_sem]
      simp only [↓bO, go_sem, seval, Tok.cells, qC, partC, List.take, List.drop, enumO, hw]
      obtain ⟨j5, d5, hW, hw5⟩ := want_g l m i 0 3 bFalse hl'
      obtain ⟨rfl, rfl⟩ : j5 = i + 1 ∧ d5 = 0 := by
       rcases hw5 with ⟨_, a, b, c⟩ | ⟨_, a, _⟩ | ⟨a, _⟩
       · exact ⟨b, c⟩
       · rw [a4] at a; exact absurd a (by simp)
       · exact absurd rfl a
      refine QCalls.at (k := 0) hW ?_ (.tup .nil) rfl (by first | omega | (simp only; omega)) ?_
      · exact ⟨.ptr rfl, .v _, .v _, trivial⟩
      simp only [putO, Nat.reduceEqDiff, ↓reduceIte]
      try simp only [bS, bA, thenQ, blockQ, noGotoQ]
      refine y0 _ ?_
      try clear y0 Y0
      refine AWp_seqK fun Y0 y0 => ?_
      refine AWp_region ?_
      iterate 3 (refine aops_chunk 1 fun Q0 q0 => ?_; simp only [↓bO, go_sem, seval, Tok.cells, qC, partC, List.take, List.drop, enumO, hw]; refine q0 _ ?_; clear q0 Q0; simp only [go_sem])
      simp only [↓bO, go_sem, seval, Tok.cells, qC, partC, List.take, List.drop, enumO, hw]
      refine y0 _ ?_
      try clear y0 Y0
      refine AWp_ret ?_
      try simp only [thenQ, blockQ, noGotoQ, retQ, aRes, tupOf, bS, bA, aLoad, getO, pack, bL, Nat.reduceAdd, Nat.reduceLeDiff, Nat.reduceEqDiff, ↓reduceIte, ti102, tyX, Tok.cells, List.length_map, qC, partC, List.take, List.drop, enumO, hw]
      rw [at_false a4] at hr
      subst hr
      refine ⟨_, _, ⟨atP 3 ByteArray.empty 0 (sp l i), ?_, rfl, rfl⟩, .data (.agg (partC_data _)), qUnd (by omega) _ _ _ _, ?_, ?_, by omega⟩
      · exact fun _ => rfl
      · exact atP_le _ _ _ _ _
      · first | exact ⟨0, rfl, rfl⟩ | exact ⟨1, rfl, rfl⟩ | exact ⟨2, rfl, rfl⟩ | exact ⟨3, rfl, rfl⟩ | exact ⟨4, rfl, rfl⟩ | exact ⟨5, rfl, rfl⟩ | exact ⟨6, rfl, rfl⟩ | exact ⟨7, rfl, rfl⟩ | exact ⟨8, rfl, rfl⟩ | exact ⟨9, rfl, rfl⟩
theorem px_bad (l : List Tok) (m : Int) (i : Nat) (n e : Int) (he : ¬ e = 0) : QEx 64 [.ptr 0 0, .v (.int .i64 n)] l m (i) (e) (wr i e) := by
  refine ACalls.clean (C := EXC l m (wr i e)) ?_
  refine ACalls_intro Tryd.func64 (by kernel_rfl) rfl (by rw [Tryd.ntmps64]; simp) (fun hm => ?_)
  simp only [Tryd.ntmps64, Tryd.results64, List.length_cons, List.length_nil, Nat.reduceAdd, Nat.reduceSub, List.replicate_succ, List.replicate_zero, List.cons_append, List.nil_append]
  refine AWp_seqK fun Y0 y0 => ?_
  refine AWp_region ?_
  simp only [↓bO, go_sem, seval, Tok.cells, qC, partC, List.take, List.drop, enumO]
  refine y0 _ ?_
  try clear y0 Y0
  refine AWp_seqK fun Y0 y0 => ?_
  refine AWp_seqK fun Y1 y1 => ?_
  refine AWp_region ?_
  iterate 4 (refine aops_chunk 1 fun Q0 q0 => ?_; simp only [↓bO, go_sem, seval, Tok.cells, qC, partC, List.take, List.drop, enumO]; refine q0 _ ?_; clear q0 Q0; simp only [go_sem])
  simp only [↓bO, go_sem, seval, Tok.cells, qC, partC, List.take, List.drop, enumO]
  refine y1 _ ?_
  try clear y1 Y1
  refine AWp_cond rfl (fun hb9 => ?_) (fun hb9 => ?_)
  ·
   refine AWp_seqK fun Y1 y1 => ?_
   refine AWp_region ?_
   refine aops_chunk 1 fun Q0 q0 => ?_
   simp only [↓bO, go_sem, seval, Tok.cells, qC, partC, List.take, List.drop, enumO]
   refine q0 _ ?_
   clear q0 Q0
   simp only [go_sem]
   simp only [↓bO, go_sem, seval, Tok.cells, qC, partC, List.take, List.drop, enumO]
   refine y1 _ ?_
   try clear y1 Y1
   refine AWp_ret ?_
   try simp only [thenQ, blockQ, noGotoQ, retQ, aRes, tupOf, bS, bA, aLoad, getO, pack, bL, Nat.reduceAdd, Nat.reduceLeDiff, Nat.reduceEqDiff, ↓reduceIte, ti102, tyX, Tok.cells, List.length_map, qC, partC, List.take, List.drop, enumO]
   refine ⟨_, _, ⟨zPt, ?_, rfl, rfl⟩, .data (.agg (partC_data _)), qUnd (by omega) _ _ _ _, ?_, ?_, by omega⟩
   · exact fun h => absurd h he
   · exact zPt_le
   · first | exact ⟨0, rfl, rfl⟩ | exact ⟨1, rfl, rfl⟩ | exact ⟨2, rfl, rfl⟩ | exact ⟨3, rfl, rfl⟩ | exact ⟨4, rfl, rfl⟩ | exact ⟨5, rfl, rfl⟩ | exact ⟨6, rfl, rfl⟩ | exact ⟨7, rfl, rfl⟩ | exact ⟨8, rfl, rfl⟩ | exact ⟨9, rfl, rfl⟩
  ·
   exact absurd hb9 (by simp [he])
theorem px_all {l : List Tok} (m : Int) (hl : l.length ≤ 100000) (hG : GoodT l) : ∀ f, PxOk l m f
  | 0 => fun i n e h1 h2 h3 h4 => by
    by_cases he : e = 0
    · exact absurd (h1 he) (by omega)
    · rw [show exS (rx l m 0) i n e = wr i e from if_neg he]
      exact px_bad l m i n e he
  | f + 1 => px_step (by omega) (px_all m hl hG f) fun i n hb h1 h2 h3 => atom_q l m f i n hl hG (px_all m hl hG f) (rx_ok l m f) hb h1 h2 h3
section
variable {l : List Tok} {m : Int}
abbrev rxX (l : List Tok) (m : Int) : Rdx := rx l m (l.length + 1) 0 1
theorem rxW_bad (h : ¬ (rxX l m).e = 0) : rxW l m = (zTm, (rxX l m).i, (rxX l m).e) := if_neg h
theorem rxW_more (h : (rxX l m).e = 0) (h2 : kdT l (rxX l m).i 0 = false) : rxW l m = (zTm, (rxX l m).i, 3) := by
  unfold rxW
  rw [if_pos h, if_neg (by rw [h2]; simp)]
theorem rxW_end (h : (rxX l m).e = 0) (h2 : kdT l (rxX l m).i 0 = true) : rxW l m = ((rxX l m).t, (rxX l m).i + 1, 0) := by
  unfold rxW
  rw [if_pos h, if_pos h2]
theorem rxW_zero (h : (rxW l m).2.2 = 0) : (rxX l m).e = 0 ∧ (rxW l m).1 = (rxX l m).t := by
  by_cases he : (rxX l m).e = 0
  · cases h2 : kdT l (rxX l m).i 0 with
    | true => rw [rxW_end he h2]; exact ⟨he, rfl⟩
    | false => rw [rxW_more he h2] at h; exact absurd (show (3 : Int) = 0 from h) (by decide)
  · rw [rxW_bad he] at h
    exact absurd h he
theorem rxW_none (h : ¬ (rxW l m).2.2 = 0) : (rxW l m).1 = zTm := by
  by_cases he : (rxX l m).e = 0
  · cases h2 : kdT l (rxX l m).i 0 with
    | true => rw [rxW_end he h2] at h; exact absurd rfl h
    | false => rw [rxW_more he h2]
  · rw [rxW_bad he]
def rwA (l : List Tok) (m : Int) : AV := .tup [.agg (rxW l m).1.cells, .v (.int .i64 ((rxW l m).2.1 : Nat)), .v (.int .i64 (rxW l m).2.2)]
theorem rwA_data (l : List Tok) (m : Int) : Data (rwA l m) := .tup (.cons (Tm.dataAgg _) (.cons (.v _) (.cons (.v _) .nil)))
end
theorem whole_q (l : List Tok) (m : Int) (hl : l.length ≤ 100000) (hG : GoodT l) : QCalls 39 [.ptr 0 0] l m (0) (0) (rwA l m) ((rxW l m).2.1) ((rxW l m).2.2) := by
  refine ACalls.clean (C := fun r os' => r = _ ∧ os' = _) ?_
  refine ACalls_intro Tryd.func39 (by kernel_rfl) rfl (by rw [Tryd.ntmps39]; simp) (fun hm => ?_)
  simp only [Tryd.ntmps39, Tryd.results39, List.length_cons, List.length_nil, Nat.reduceAdd, Nat.reduceSub, List.replicate_succ, List.replicate_zero, List.cons_append, List.nil_append]
  have hl' : l.length ≤ 1048576 := by omega
  have hok := rx_ok l m (l.length + 1) 0 1 (Nat.zero_le _)
  refine AWp_seqK fun Y0 y0 => ?_
  refine AWp_region ?_
  iterate 2 (refine aops_chunk 1 fun Q0 q0 => ?_; simp only [↓bO, go_sem, seval, Tok.cells, qC, partC, List.take, List.drop, enumO]; refine q0 _ ?_; clear q0 Q0; simp only [go_sem])
  simp only [↓bO, go_sem, seval, Tok.cells, qC, partC, List.take, List.drop, enumO]
  refine y0 _ ?_
  try clear y0 Y0
  refine AWp_seqK fun Y0 y0 => ?_
  refine AWp_region ?_
  refine aops_chunk 1 fun Q0 q0 => ?_
  simp only [↓bO, go_sem, seval, Tok.cells, qC, partC, List.take, List.drop, enumO]
  refine q0 _ ?_
  clear q0 Q0
  simp only [go_sem]
  refine aops_chunk 1 fun Q0 q0 => ?_
  simp only [↓bO, go_sem, seval, Tok.cells, qC, partC, List.take, List.drop, enumO]
  refine QEx.at (k := 0) ((px_all m hl hG (l.length + 1)).zero (i := 0) (n := 1) (by omega) (by omega) (by omega) (by omega)) ?_ rfl (by first | omega | (simp only; omega)) ?_
  · exact ⟨.ptr rfl, .v _, trivial⟩
  intro p hp
  simp only [partC, putO, Nat.reduceEqDiff, ↓reduceIte]
  try simp only [bS, bA, thenQ, blockQ, noGotoQ]
  refine q0 _ ?_
  clear q0 Q0
  simp only [go_sem]
  refine aops_chunk 1 fun Q0 q0 => ?_
  simp only [↓bO, go_sem, seval, Tok.cells, qC, partC, List.take, List.drop, enumO]
  refine q0 _ ?_
  clear q0 Q0
  simp only [go_sem]
  simp only [↓bO, go_sem, seval, Tok.cells, qC, partC, List.take, List.drop, enumO]
  refine y0 _ ?_
  try clear y0 Y0
  refine AWp_joinZ (mB 48 37) ([]) [(2, .cells 102 (partC p)), (1, .cells 40 [.v (.int .i64 0), .v (.string ByteArray.empty), .v (.int .i64 0), .v (.int .i64 0), .v (.int .i64 0), .v (.slice none 0 0), .v (.slice none 0 0), .v (.int .i64 0), .v (.int .i64 0)]), (0, .cells 78 (qC l (rxW l m).2.1 m (rxW l m).2.2))] 3 (True) ?_ (fun hC => ?_)
  ·
   refine AWp_seqK fun Y0 y0 => ?_
   refine AWp_region ?_
   iterate 4 (refine aops_chunk 1 fun Q0 q0 => ?_; simp only [↓bO, go_sem, seval, Tok.cells, qC, partC, List.take, List.drop, enumO]; refine q0 _ ?_; clear q0 Q0; simp only [go_sem])
   simp only [↓bO, go_sem, seval, Tok.cells, qC, partC, List.take, List.drop, enumO]
   refine y0 _ ?_
   try clear y0 Y0
   refine AWp_cond rfl (fun hb14 => ?_) (fun hb14 => ?_)
   ·
    have he : (rxX l m).e = 0 := by simpa using hb14
    obtain ⟨j1, w1, b1, hK1, hk1⟩ := kind_g l m (rxX l m).i 0 hl'
    refine AWp_seqK fun Y0 y0 => ?_
    refine AWp_region ?_
    iterate 3 (refine aops_chunk 1 fun Q0 q0 => ?_; simp only [↓bO, go_sem, seval, Tok.cells, qC, partC, List.take, List.drop, enumO]; refine q0 _ ?_; clear q0 Q0; simp only [go_sem])
    refine aops_chunk 1 fun Q0 q0 => ?_
    simp only [↓bO, go_sem, seval, Tok.cells, qC, partC, List.take, List.drop, enumO]
    refine QCalls.at (k := 0) (show QCalls 65 [.ptr 0 0, .v (.int .i64 0)] l m (rxX l m).i (rxX l m).e (.tup [.agg w1.cells, .v (.bool b1)]) j1 0 from by rw [he]; exact hK1) ?_ (.tup (.cons (tokData _) (.cons (.v _) .nil))) rfl (by first | omega | (simp only; omega)) ?_
    · exact ⟨.ptr rfl, .v _, trivial⟩
    simp only [putO, Nat.reduceEqDiff, ↓reduceIte]
    try simp only [bS, bA, thenQ, blockQ, noGotoQ]
    iterate 5 (refine q0 _ ?_; clear q0 Q0; simp only [go_sem]; refine aops_chunk 1 fun Q0 q0 => ?_; simp only [↓bO, go_sem, seval, Tok.cells, qC, partC, List.take, List.drop, enumO])
    refine q0 _ ?_
    clear q0 Q0
    simp only [go_sem]
    simp only [↓bO, go_sem, seval, Tok.cells, qC, partC, List.take, List.drop, enumO]
    refine y0 _ ?_
    try clear y0 Y0
    refine AWp_seqK fun Y0 y0 => ?_
    refine AWp_region ?_
    refine aops_chunk 1 fun Q0 q0 => ?_
    simp only [↓bO, go_sem, seval, Tok.cells, qC, partC, List.take, List.drop, enumO]
    refine q0 _ ?_
    clear q0 Q0
    simp only [go_sem]
    simp only [↓bO, go_sem, seval, Tok.cells, qC, partC, List.take, List.drop, enumO]
    refine y0 _ ?_
    try clear y0 Y0
    refine AWp_cond rfl (fun hb23 => ?_) (fun hb23 => ?_)
    ·
     obtain ⟨a1, rfl, rfl⟩ := hk1.resolve_left fun h => by simp [h.2.1] at hb23
     refine AWp_region ?_
     refine aops_chunk 1 fun Q0 q0 => ?_
     simp only [↓bO, go_sem, seval, Tok.cells, qC, partC, List.take, List.drop, enumO]
     refine q0 _ ?_
     clear q0 Q0
     simp only [go_sem]
     simp only [↓bO, go_sem, seval, Tok.cells, qC, partC, List.take, List.drop, enumO]
     refine QCalls.at (k := 0) (fail_q l m (rxX l m).i 0 3) ?_ (.tup .nil) rfl (by first | omega | (simp only; omega)) ?_
     · exact ⟨.ptr rfl, .v _, trivial⟩
     simp only [putO, Nat.reduceEqDiff, ↓reduceIte]
     try simp only [bS, bA, thenQ, blockQ, noGotoQ]
     try simp only [maskL, setsL, putsO, putO, mB, List.set_cons_zero, List.set_cons_succ, seval]
     first | refine ⟨trivial, ?_⟩ | skip
     first | rw [rxW_bad he] | rw [rxW_more he a1] | rw [rxW_end he a1]
     first | (refine Weak.drops 3 3 rfl rfl (by simp only; omega) (by simp only; omega) ?_ ?_ ?_) | (refine Weak.drops 2 3 rfl rfl (by simp only; omega) (by simp only; omega) ?_ ?_ ?_) | (refine Weak.drops 1 3 rfl rfl (by simp only; omega) (by simp only; omega) ?_ ?_ ?_) | (refine Weak.drops 0 3 rfl rfl (by simp only; omega) (by simp only; omega) ?_ ?_ ?_)
     · simp only [go_sem, Le.refl, Le.any]
     · repeat' first | exact trivial | exact .any _ | exact .ptr (by omega) | exact .v _ _ | (refine ⟨?_, ?_⟩)
     · repeat' first | exact trivial | exact .v _ _ | exact .data (Tok.dataSl _) | exact .data (Tm.dataSl _) | exact .data (Ty.dataSl _) | (refine ⟨?_, ?_⟩) | omega
    ·
     obtain ⟨a1, rfl, rfl, rfl⟩ := hk1.resolve_right fun h => by simp [h.2.1] at hb23
     refine AWp_skip ?_
     try simp only [thenQ, blockQ, noGotoQ]
     try simp only [maskL, setsL, putsO, putO, mB, List.set_cons_zero, List.set_cons_succ, seval]
     first | refine ⟨trivial, ?_⟩ | skip
     first | rw [rxW_bad he] | rw [rxW_more he a1] | rw [rxW_end he a1]
     first | (refine Weak.drops 3 3 rfl rfl (by simp only; omega) (by simp only; omega) ?_ ?_ ?_) | (refine Weak.drops 2 3 rfl rfl (by simp only; omega) (by simp only; omega) ?_ ?_ ?_) | (refine Weak.drops 1 3 rfl rfl (by simp only; omega) (by simp only; omega) ?_ ?_ ?_) | (refine Weak.drops 0 3 rfl rfl (by simp only; omega) (by simp only; omega) ?_ ?_ ?_)
     · simp only [go_sem, Le.refl, Le.any]
     · repeat' first | exact trivial | exact .any _ | exact .ptr (by omega) | exact .v _ _ | (refine ⟨?_, ?_⟩)
     · repeat' first | exact trivial | exact .v _ _ | exact .data (Tok.dataSl _) | exact .data (Tm.dataSl _) | exact .data (Ty.dataSl _) | (refine ⟨?_, ?_⟩) | omega
   ·
    have he : ¬ (rxX l m).e = 0 := by simpa using hb14
    refine AWp_skip ?_
    try simp only [thenQ, blockQ, noGotoQ]
    try simp only [maskL, setsL, putsO, putO, mB, List.set_cons_zero, List.set_cons_succ, seval]
    first | refine ⟨trivial, ?_⟩ | skip
    first | rw [rxW_bad he] | rw [rxW_more he a1] | rw [rxW_end he a1]
    first | (refine Weak.drops 3 3 rfl rfl (by simp only; omega) (by simp only; omega) ?_ ?_ ?_) | (refine Weak.drops 2 3 rfl rfl (by simp only; omega) (by simp only; omega) ?_ ?_ ?_) | (refine Weak.drops 1 3 rfl rfl (by simp only; omega) (by simp only; omega) ?_ ?_ ?_) | (refine Weak.drops 0 3 rfl rfl (by simp only; omega) (by simp only; omega) ?_ ?_ ?_)
    · simp only [go_sem, Le.refl, Le.any]
    · repeat' first | exact trivial | exact .any _ | exact .ptr (by omega) | exact .v _ _ | (refine ⟨?_, ?_⟩)
    · repeat' first | exact trivial | exact .v _ _ | exact .data (Tok.dataSl _) | exact .data (Tm.dataSl _) | exact .data (Ty.dataSl _) | (refine ⟨?_, ?_⟩) | omega
  simp only [maskL, setsL, putsO, putO, mB, List.set_cons_zero, List.set_cons_succ, seval]
  refine AWp_seqK fun Y0 y0 => ?_
  refine AWp_seqK fun Y1 y1 => ?_
  refine AWp_region ?_
  iterate 4 (refine aops_chunk 1 fun Q0 q0 => ?_; simp only [↓bO, go_sem, seval, Tok.cells, qC, partC, List.take, List.drop, enumO]; refine q0 _ ?_; clear q0 Q0; simp only [go_sem])
  simp only [↓bO, go_sem, seval, Tok.cells, qC, partC, List.take, List.drop, enumO]
  refine y1 _ ?_
  try clear y1 Y1
  refine AWp_cond rfl (fun hb30 => ?_) (fun hb30 => ?_)
  ·
   have he2 : ¬ (rxW l m).2.2 = 0 := by simpa using hb30
   refine AWp_seqK fun Y1 y1 => ?_
   refine AAny_start [(0, 1, [.v (.int .i64 ((rxW l m).2.1 : Nat))]), (0, 3, [.v (.int .i64 (rxW l m).2.2)])] 13 rfl mixed (⟨⟨_, _, rfl, by simp, rfl, trivial, trivial⟩, ⟨⟨_, _, rfl, by simp, rfl, trivial, trivial⟩, trivial⟩⟩) rfl ?_
   dsimp only
   refine AAny_takeK 1 rfl (by kernel_rfl) (by kernel_rfl) (by kernel_rfl) (fun _ _ h => h) fun Q0 q0 => ?_
   simp only [↓bO, go_sem, seval, Tok.cells, qC, partC, List.take, List.drop, enumO]
   refine q0 _ ?_
   clear q0 Q0
   refine AAny_takeK 2 rfl (by kernel_rfl) (by kernel_rfl) (by kernel_rfl) (fun _ _ h => h) fun Q0 q0 => ?_
   simp only [↓bO, go_sem, seval, Tok.cells, qC, partC, List.take, List.drop, enumO]
   refine q0 _ ?_
   clear q0 Q0
   refine AAny_takeK 3 rfl (by kernel_rfl) (by kernel_rfl) (by kernel_rfl) (fun _ _ h => h) fun Q0 q0 => ?_
   simp only [↓bO, go_sem, seval, Tok.cells, qC, partC, List.take, List.drop, enumO]
   refine q0 _ ?_
   clear q0 Q0
   refine AAny_takeK 4 rfl (by kernel_rfl) (by kernel_rfl) (by kernel_rfl) (fun _ _ h => h) fun Q0 q0 => ?_
   simp only [↓bO, go_sem, seval, Tok.cells, qC, partC, List.take, List.drop, enumO]
   refine q0 _ ?_
   clear q0 Q0
   refine AAny_loadK 5 0 rfl rfl (by kernel_rfl) (by kernel_rfl) (by kernel_rfl) (fun _ _ h => h) fun Q0 q0 => ?_
   simp only [↓bO, go_sem, seval, Tok.cells, qC, partC, List.take, List.drop, enumO]
   refine q0 _ ?_
   clear q0 Q0
   refine AAny_takeK 6 rfl (by kernel_rfl) (by kernel_rfl) (by kernel_rfl) (fun _ _ h => h) fun Q0 q0 => ?_
   simp only [↓bO, go_sem, seval, Tok.cells, qC, partC, List.take, List.drop, enumO]
   refine q0 _ ?_
   clear q0 Q0
   refine AAny_takeK 7 rfl (by kernel_rfl) (by kernel_rfl) (by kernel_rfl) (fun _ _ h => h) fun Q0 q0 => ?_
   simp only [↓bO, go_sem, seval, Tok.cells, qC, partC, List.take, List.drop, enumO]
   refine q0 _ ?_
   clear q0 Q0
   refine AAny_takeK 8 rfl (by kernel_rfl) (by kernel_rfl) (by kernel_rfl) (fun _ _ h => h) fun Q0 q0 => ?_
   simp only [↓bO, go_sem, seval, Tok.cells, qC, partC, List.take, List.drop, enumO]
   refine q0 _ ?_
   clear q0 Q0
   refine AAny_loadK 9 1 rfl rfl (by kernel_rfl) (by kernel_rfl) (by kernel_rfl) (fun _ _ h => h) fun Q0 q0 => ?_
   simp only [↓bO, go_sem, seval, Tok.cells, qC, partC, List.take, List.drop, enumO]
   refine q0 _ ?_
   clear q0 Q0
   refine AAny_all1 (i := 0) (by kernel_rfl) ?_
   ·
    refine aAt_op rfl rfl fun Q0 q0 => ?_
    simp only [↓bO, go_sem, seval, Tok.cells, qC, partC, List.take, List.drop, enumO]
    refine q0 _ ⟨⟨⟨_, _, rfl, by simp, rfl, trivial, trivial⟩, ⟨⟨_, _, rfl, by simp, rfl, trivial, trivial⟩, trivial⟩⟩, ?_⟩
    clear q0 Q0
    refine AAny_all1 (i := 10) (by kernel_rfl) ?_
    ·
     refine aAt_op rfl rfl fun Q0 q0 => ?_
     simp only [↓bO, go_sem, seval, Tok.cells, qC, partC, List.take, List.drop, enumO]
     refine q0 _ ⟨⟨⟨_, _, rfl, by simp, rfl, trivial, trivial⟩, ⟨⟨_, _, rfl, by simp, rfl, trivial, trivial⟩, trivial⟩⟩, ?_⟩
     clear q0 Q0
     refine AAny_takeK 11 rfl (by kernel_rfl) (by kernel_rfl) (by kernel_rfl) (fun _ _ h => h) fun Q0 q0 => ?_
     simp only [↓bO, go_sem, seval, Tok.cells, qC, partC, List.take, List.drop, enumO]
     refine q0 _ ?_
     clear q0 Q0
     refine AAny_takeK 12 rfl (by kernel_rfl) (by kernel_rfl) (by kernel_rfl) (fun _ _ h => h) fun Q0 q0 => ?_
     simp only [↓bO, go_sem, seval, Tok.cells, qC, partC, List.take, List.drop, enumO]
     refine q0 _ ?_
     clear q0 Q0
     refine AAny_done (by kernel_rfl) ?_
     simp only [thenQ, blockQ, noGotoQ]
     refine y1 _ ?_
     try clear y1 Y1
     refine AWp_ret ?_
     try simp only [thenQ, blockQ, noGotoQ, retQ, aRes, tupOf, bS, bA, aLoad, getO, pack, bL, Nat.reduceAdd, Nat.reduceLeDiff, Nat.reduceEqDiff, ↓reduceIte, ti40, tyX, Tok.cells, List.length_map, qC, partC, List.take, List.drop, enumO]
     have hres := rxW_none he2
     unfold rwA
     rw [hres]
     refine ⟨_, _, ⟨rfl, rfl⟩, .data (.tup (.cons (Tm.dataAgg _) (.cons (.v _) (.cons (.v _) .nil)))), qUnd (by omega) _ _ _ _, ?_, ?_, by omega⟩
     · first | exact Le.tup ⟨zTm_le, .refl _, .refl _, trivial⟩ | (rw [Tm.cells_eq, he2]; exact Le.refl _)
     · first | exact ⟨0, rfl, rfl⟩ | exact ⟨1, rfl, rfl⟩ | exact ⟨2, rfl, rfl⟩ | exact ⟨3, rfl, rfl⟩
  ·
   have he2 : (rxW l m).2.2 = 0 := by simpa using hb30
   refine AWp_skip ?_
   try simp only [thenQ, blockQ, noGotoQ]
   refine y0 _ ?_
   try clear y0 Y0
   refine AWp_seqK fun Y0 y0 => ?_
   refine AAny_start [(0, 1, [.v (.int .i64 ((rxW l m).2.1 : Nat))])] 10 rfl mixed (⟨⟨_, _, rfl, by simp, rfl, trivial, trivial⟩, trivial⟩) rfl ?_
   dsimp only
   refine AAny_takeK 0 rfl (by kernel_rfl) (by kernel_rfl) (by kernel_rfl) (fun _ _ h => h) fun Q0 q0 => ?_
   simp only [↓bO, go_sem, seval, Tok.cells, qC, partC, List.take, List.drop, enumO]
   refine q0 _ ?_
   clear q0 Q0
   refine AAny_takeK 2 rfl (by kernel_rfl) (by kernel_rfl) (by kernel_rfl) (fun _ _ h => h) fun Q0 q0 => ?_
   simp only [↓bO, go_sem, seval, Tok.cells, qC, partC, List.take, List.drop, enumO]
   refine q0 _ ?_
   clear q0 Q0
   refine AAny_takeK 3 rfl (by kernel_rfl) (by kernel_rfl) (by kernel_rfl) (fun _ _ h => h) fun Q0 q0 => ?_
   simp only [↓bO, go_sem, seval, Tok.cells, qC, partC, List.take, List.drop, enumO]
   refine q0 _ ?_
   clear q0 Q0
   refine AAny_takeK 4 rfl (by kernel_rfl) (by kernel_rfl) (by kernel_rfl) (fun _ _ h => h) fun Q0 q0 => ?_
   simp only [↓bO, go_sem, seval, Tok.cells, qC, partC, List.take, List.drop, enumO]
   refine q0 _ ?_
   clear q0 Q0
   refine AAny_takeK 5 rfl (by kernel_rfl) (by kernel_rfl) (by kernel_rfl) (fun _ _ h => h) fun Q0 q0 => ?_
   simp only [↓bO, go_sem, seval, Tok.cells, qC, partC, List.take, List.drop, enumO]
   refine q0 _ ?_
   clear q0 Q0
   refine AAny_loadK 6 0 rfl rfl (by kernel_rfl) (by kernel_rfl) (by kernel_rfl) (fun _ _ h => h) fun Q0 q0 => ?_
   simp only [↓bO, go_sem, seval, Tok.cells, qC, partC, List.take, List.drop, enumO]
   refine q0 _ ?_
   clear q0 Q0
   refine AAny_all1 (i := 1) (by kernel_rfl) ?_
   ·
    refine aAt_op rfl rfl fun Q0 q0 => ?_
    simp only [↓bO, go_sem, seval, Tok.cells, qC, partC, List.take, List.drop, enumO]
    refine q0 _ ⟨⟨⟨_, _, rfl, by simp, rfl, trivial, trivial⟩, trivial⟩, ?_⟩
    clear q0 Q0
    refine AAny_all1 (i := 7) (by kernel_rfl) ?_
    ·
     refine aAt_op rfl rfl fun Q0 q0 => ?_
     simp only [↓bO, go_sem, seval, Tok.cells, qC, partC, List.take, List.drop, enumO]
     refine q0 _ ⟨⟨⟨_, _, rfl, by simp, rfl, trivial, trivial⟩, trivial⟩, ?_⟩
     clear q0 Q0
     refine AAny_takeK 8 rfl (by kernel_rfl) (by kernel_rfl) (by kernel_rfl) (fun _ _ h => h) fun Q0 q0 => ?_
     simp only [↓bO, go_sem, seval, Tok.cells, qC, partC, List.take, List.drop, enumO]
     refine q0 _ ?_
     clear q0 Q0
     refine AAny_takeK 9 rfl (by kernel_rfl) (by kernel_rfl) (by kernel_rfl) (fun _ _ h => h) fun Q0 q0 => ?_
     simp only [↓bO, go_sem, seval, Tok.cells, qC, partC, List.take, List.drop, enumO]
     refine q0 _ ?_
     clear q0 Q0
     refine AAny_done (by kernel_rfl) ?_
     simp only [thenQ, blockQ, noGotoQ]
     refine y0 _ ?_
     try clear y0 Y0
     refine AWp_ret ?_
     try simp only [thenQ, blockQ, noGotoQ, retQ, aRes, tupOf, bS, bA, aLoad, getO, pack, bL, Nat.reduceAdd, Nat.reduceLeDiff, Nat.reduceEqDiff, ↓reduceIte, ti40, tyX, Tok.cells, List.length_map, qC, partC, List.take, List.drop, enumO]
     obtain ⟨he, hres⟩ := rxW_zero he2
     unfold rwA
     rw [hres, hp he]
     refine ⟨_, _, ⟨rfl, rfl⟩, .data (.tup (.cons (Tm.dataAgg _) (.cons (.v _) (.cons (.v _) .nil)))), qUnd (by omega) _ _ _ _, ?_, ?_, by omega⟩
     · first | exact Le.tup ⟨zTm_le, .refl _, .refl _, trivial⟩ | (rw [Tm.cells_eq, he2]; exact Le.refl _)
     · first | exact ⟨0, rfl, rfl⟩ | exact ⟨1, rfl, rfl⟩ | exact ⟨2, rfl, rfl⟩ | exact ⟨3, rfl, rfl⟩
theorem PTokens_pure (l : List Tok) (m : Int) (hl : l.length ≤ 100000) (hG : GoodT l) : APure Tryd.prog 22 [.sl 4 (l.map Tok.cells), .v (.int .i64 m)] (rwA l m) := by
  refine APure.mkL (.cons (Tok.dataSl l) (.cons (.v _) .nil)) (rwA_data l m) ?_
  refine ACalls_intro Tryd.func22 (by kernel_rfl) rfl (by rw [Tryd.ntmps22]; simp) (fun hm => ?_)
  simp only [Tryd.ntmps22, Tryd.results22, List.length_cons, List.length_nil, Nat.reduceAdd, Nat.reduceSub, List.replicate_succ, List.replicate_zero, List.cons_append, List.nil_append]
  refine AWp_seqK fun Y0 y0 => ?_
  refine AWp_region ?_
  iterate 2 (refine aops_chunk 1 fun Q0 q0 => ?_; simp only [↓bO, go_sem, seval, Tok.cells, qC]; refine q0 _ ?_; clear q0 Q0; simp only [go_sem])
  simp only [↓bO, go_sem, seval, Tok.cells, qC]
  refine y0 _ ?_
  try clear y0 Y0
  refine AWp_seqK fun Y0 y0 => ?_
  refine AWp_region ?_
  iterate 5 (refine aops_chunk 1 fun Q0 q0 => ?_; simp only [↓bO, go_sem, seval, Tok.cells, qC]; refine q0 _ ?_; clear q0 Q0; simp only [go_sem])
  simp only [↓bO, go_sem, seval, Tok.cells, qC]
  refine y0 _ ?_
  try clear y0 Y0
  refine AWp_seqK fun Y0 y0 => ?_
  refine AWp_region ?_
  refine aops_chunk 1 fun Q0 q0 => ?_
  simp only [↓bO, go_sem, seval, Tok.cells, qC]
  refine q0 _ ?_
  clear q0 Q0
  simp only [go_sem]
  refine aops_chunk 1 fun Q0 q0 => ?_
  simp only [↓bO, go_sem, seval, Tok.cells, qC]
  refine QCalls.at (k := 1) (whole_q l m hl hG) ?_ (rwA_data l m) rfl (by first | omega | (simp only; omega)) ?_
  · exact ⟨.ptr rfl, trivial⟩
  simp only [rwA, Tm.cells_eq (rxW l m).1, putO, Nat.reduceEqDiff, ↓reduceIte]
  try simp only [bS, bA, thenQ, blockQ, noGotoQ]
  iterate 5 (refine q0 _ ?_; clear q0 Q0; simp only [go_sem]; refine aops_chunk 1 fun Q0 q0 => ?_; simp only [↓bO, go_sem, seval, Tok.cells, qC])
  refine q0 _ ?_
  clear q0 Q0
  simp only [go_sem]
  simp only [↓bO, go_sem, seval, Tok.cells, qC]
  refine y0 _ ?_
  try clear y0 Y0
  refine AWp_ret ?_
  try simp only [thenQ, blockQ, noGotoQ, retQ, aRes, tupOf, bS, bA, aLoad, getO, pack, bL, Nat.reduceAdd, Nat.reduceLeDiff, Nat.reduceEqDiff, ↓reduceIte, ti40, tyX, Tok.cells, List.length_map, qC]
  first | exact Le.refl _ | (unfold rwA; rw [Tm.cells_eq]; exact Le.refl _)
end Go.Proofs.YtkokfdmggdhfmaaDoor
namespace Go.Proofs.YtkokfdmggdhfmaaDoor
open Go Go.RowKit
set_option linter.unusedSimpArgs false
set_option linter.unnecessarySimpa false
set_option linter.unusedVariables false
theorem run_all {s : ByteArray} {i : Nat} {p : Int → Bool} : ∀ c ∈ bl (s.extract i (i + runN s i p)), p c.toNat = true := by
  intro c hc
  have h1 : bl (s.extract i (i + runN s i p)) = ((bl s).drop i).takeWhile fun b => p b.toNat := by
    have h2 := List.prefix_iff_eq_take.1 (List.takeWhile_prefix (l := (bl s).drop i) (fun b => p b.toNat))
    rw [h2]
    simp only [bl, ByteArray.data_extract, Array.toList_extract, List.extract_eq_take_drop]
    congr 1
    unfold runN
    omega
  rw [h1] at hc
  have h3 := List.all_takeWhile (l := (bl s).drop i) (p := fun b => p b.toNat)
  exact List.all_eq_true.1 h3 c hc
def TkGd (t : Tok) : Prop := t.k = 2 → numS t.s
theorem tkOf_gd {s : ByteArray} {i : Nat} (hi : i < s.size) (h : (nxF s i).2.2 = 0) : TkGd (tkOf s i) := by
  intro hk
  have hk2 : (nxF s i).1 = 2 := hk
  by_cases h1 : smI (bt s i) = true
  · rw [nx_letter h1 rfl] at hk2
    split at hk2
    · exact absurd (show (3 : Int) = 2 from hk2) (by decide)
    · split at hk2
      · exact absurd (show (0 : Int) = 2 from hk2) (by decide)
      · exact absurd (show (1 : Int) = 2 from hk2) (by decide)
  · by_cases h2 : dgI (bt s i) = true
    · have hx := nx_digit (by simpa using h1) h2 (rfl : runN s i dgI = runN s i dgI)
      have hp := runN_pos hi h2
      have hl := runN_le s i dgI (by omega)
      by_cases h3 : (1 < runN s i dgI ∧ bt s i = 48) ∨ (i + runN s i dgI < s.size ∧ inI (bt s (i + runN s i dgI)) = true)
      · rw [if_pos h3] at hx
        rw [hx] at h
        exact absurd (show (3 : Int) = 0 from h) (by decide)
      · rw [if_neg h3] at hx
        by_cases h4 : 9 < runN s i dgI
        · rw [if_pos h4] at hx
          rw [hx] at h
          exact absurd (show (2 : Int) = 0 from h) (by decide)
        · rw [if_neg h4] at hx
          have hs : (tkOf s i).s = s.extract i (i + runN s i dgI) := by unfold tkOf; rw [hx]
          rw [hs]
          have hsz : (bl (s.extract i (i + runN s i dgI))).length = runN s i dgI := by rw [bl_len, ex_size s (by omega) hl]; omega
          refine ⟨fun e => ?_, by omega, fun c hc => ?_⟩
          · rw [e] at hsz
            simp at hsz
            omega
          · have h9 := run_all c hc
            unfold dgI at h9
            simp at h9
            omega
    · unfold nxF at hk2
      rw [if_neg h1, if_neg h2] at hk2
      split at hk2
      · exact absurd hk2 (by decide)
      · split at hk2 <;> exact absurd hk2 (by decide)
theorem wd_good (s : ByteArray) : ∀ (f i : Nat) (out : List Tok), i ≤ s.size → out.length ≤ i → (∀ t ∈ out, TkGd t) → (∀ t ∈ (wdF s f i out).1, TkGd t) ∧ (wdF s f i out).1.length ≤ s.size + 1
  | 0, i, out, hi, ho, hg => ⟨fun t ht => absurd ht (by simp [wdF]), by simp [wdF]⟩
  | f + 1, i, out, hi, ho, hg => by
    unfold wdF
    by_cases h1 : i < s.size
    · rw [if_pos h1]
      by_cases h2 : blI (bt s i) = true
      · rw [if_pos h2]
        exact wd_good s f (i + 1) out (by omega) (by omega) hg
      · rw [if_neg h2]
        by_cases h3 : bt s i = 35
        · rw [if_pos h3]
          exact wd_good s f _ out (runN_le s i _ (by omega)) (by omega) hg
        · rw [if_neg h3]
          by_cases h4 : (nxF s i).2.2 = 0
          · rw [if_pos h4]
            have h5 := nx_len h1 h4
            refine wd_good s f _ _ h5.2 (by rw [List.length_append]; show out.length + 1 ≤ _; omega) fun t ht => ?_
            rcases List.mem_append.1 ht with h6 | h6
            · exact hg t h6
            · rw [List.mem_singleton.1 h6]
              exact tkOf_gd h1 h4
          · rw [if_neg h4]
            exact ⟨fun t ht => absurd ht (by simp), by simp⟩
    · rw [if_neg h1]
      refine ⟨fun t ht => ?_, by simp; omega⟩
      rcases List.mem_append.1 ht with h6 | h6
      · exact hg t h6
      · rw [List.mem_singleton.1 h6]
        exact fun h => absurd (show (0 : Int) = 2 from h) (by decide)
theorem wd_len (s : ByteArray) : (wdA s).1.length ≤ s.size + 1 := (wd_good s (s.size + 1) 0 [] (Nat.zero_le _) (Nat.le_refl _) (by simp)).2
theorem wd_gd (s : ByteArray) : GoodT (wdA s).1 := fun i h => by
  have h1 := kdT_lt h
  obtain ⟨t, ht⟩ : ∃ t, (wdA s).1[i]? = some t := ⟨_, List.getElem?_eq_getElem h1⟩
  have h2 := kdT_tk h
  rw [tk_at ht] at h2 ⊢
  exact (wd_good s (s.size + 1) 0 [] (Nat.zero_le _) (Nat.le_refl _) (by simp)).1 t (List.mem_of_getElem? ht) h2
theorem wd_at (s : ByteArray) : ∀ (f i : Nat) (out : List Tok), i ≤ s.size → 0 ≤ (wdF s f i out).2.1 ∧ (wdF s f i out).2.1 ≤ s.size ∧ ((wdF s f i out).2.2 = 0 → 1 ≤ (wdF s f i out).1.length)
  | 0, i, out, hi => ⟨by show (0 : Int) ≤ i; omega, by show (i : Int) ≤ s.size; omega, fun h => absurd (show (3 : Int) = 0 from h) (by decide)⟩
  | f + 1, i, out, hi => by
    unfold wdF
    by_cases h1 : i < s.size
    · rw [if_pos h1]
      by_cases h2 : blI (bt s i) = true
      · rw [if_pos h2]
        exact wd_at s f (i + 1) out (by omega)
      · rw [if_neg h2]
        by_cases h3 : bt s i = 35
        · rw [if_pos h3]
          exact wd_at s f _ out (runN_le s i _ (by omega))
        · rw [if_neg h3]
          by_cases h4 : (nxF s i).2.2 = 0
          · rw [if_pos h4]
            exact wd_at s f _ _ (nx_len h1 h4).2
          · rw [if_neg h4]
            exact ⟨by show (0 : Int) ≤ i; omega, by show (i : Int) ≤ s.size; omega, fun h => absurd h h4⟩
    · rw [if_neg h1]
      exact ⟨Int.le_refl 0, by show (0 : Int) ≤ s.size; omega, fun _ => by simp⟩
end Go.Proofs.YtkokfdmggdhfmaaDoor
namespace Go.Proofs.YtkokfdmggdhfmaaDoor
open Go Go.RowKit
set_option maxRecDepth 100000
set_option maxHeartbeats 4000000
set_option linter.unusedSimpArgs false
set_option linter.unnecessarySimpa false
set_option linter.unusedVariables false
attribute [local irreducible] aops dRun
def txR (s : ByteArray) (m : Int) : Tm × (Int × Int) × Int :=
  if (wdA s).2.2 = 0 then if (rxW (wdA s).1 m).2.2 = 0 then ((rxW (wdA s).1 m).1, (0, 0), 0) else (zTm, sp (wdA s).1 (min (rxW (wdA s).1 m).2.1 ((wdA s).1.length - 1)), (rxW (wdA s).1 m).2.2)
  else (zTm, ((wdA s).2.1, (wdA s).2.1 + 1), (wdA s).2.2)
def txA (s : ByteArray) (m : Int) : AV := .tup [.agg (txR s m).1.cells, .agg [.v (.int .i64 (txR s m).2.1.1), .v (.int .i64 (txR s m).2.1.2)], .v (.int .i64 (txR s m).2.2)]
theorem txA_data (s : ByteArray) (m : Int) : Data (txA s m) := .tup (.cons (Tm.dataAgg _) (.cons (.agg (.cons (.v _) (.cons (.v _) .nil))) (.cons (.v _) .nil)))
section
variable {s : ByteArray} {m : Int}
theorem txR_lex (h : ¬ (wdA s).2.2 = 0) : txR s m = (zTm, ((wdA s).2.1, (wdA s).2.1 + 1), (wdA s).2.2) := if_neg h
theorem txR_bad (h : (wdA s).2.2 = 0) (h2 : ¬ (rxW (wdA s).1 m).2.2 = 0) : txR s m = (zTm, sp (wdA s).1 (min (rxW (wdA s).1 m).2.1 ((wdA s).1.length - 1)), (rxW (wdA s).1 m).2.2) := by
  unfold txR
  rw [if_pos h, if_neg h2]
theorem txR_ok (h : (wdA s).2.2 = 0) (h2 : (rxW (wdA s).1 m).2.2 = 0) : txR s m = ((rxW (wdA s).1 m).1, (0, 0), 0) := by
  unfold txR
  rw [if_pos h, if_pos h2]
end
theorem PTerm_pure (s : ByteArray) (m : Int) (hs : s.size ≤ 90000) : APure Tryd.prog 12 [.v (.string s), .v (.int .i64 m)] (txA s m) := by
  refine APure.mkL (.cons (.v _) (.cons (.v _) .nil)) (txA_data s m) ?_
  refine ACalls_intro Tryd.func12 (by kernel_rfl) rfl (by rw [Tryd.ntmps12]; simp) (fun hm => ?_)
  simp only [Tryd.ntmps12, Tryd.results12, List.length_cons, List.length_nil, Nat.reduceAdd, Nat.reduceSub, List.replicate_succ, List.replicate_zero, List.cons_append, List.nil_append]
  have hat := wd_at s (s.size + 1) 0 [] (Nat.zero_le _)
  have hln := wd_len s
  change 0 ≤ (wdA s).2.1 ∧ (wdA s).2.1 ≤ s.size ∧ ((wdA s).2.2 = 0 → 1 ≤ (wdA s).1.length) at hat
  have hw : IntKind.i64.wrap ((wdA s).2.1 + 1) = (wdA s).2.1 + 1 := by (rw [wrap_in (by omega) (by omega)])
  have hw2 : IntKind.i64.wrap (((wdA s).1.length : Int) - 1) = ((wdA s).1.length : Int) - 1 := by (rw [wrap_in (by omega) (by omega)])
  refine AWp_seqK fun Y0 y0 => ?_
  refine AWp_region ?_
  iterate 2 (refine aops_chunk 1 fun Q0 q0 => ?_; simp only [↓bO, go_sem, seval, Tok.cells, qC, rwA, hw, hw2, Tm.cells_eq (rxW (wdA s).1 m).1]; refine q0 _ ?_; clear q0 Q0; simp only [go_sem])
  simp only [↓bO, go_sem, seval, Tok.cells, qC, rwA, hw, hw2, Tm.cells_eq (rxW (wdA s).1 m).1]
  refine y0 _ ?_
  try clear y0 Y0
  refine AWp_seqK fun Y0 y0 => ?_
  refine AWp_region ?_
  refine aops_chunk 1 fun Q0 q0 => ?_
  simp only [↓bO, go_sem, seval, Tok.cells, qC, rwA, hw, hw2, Tm.cells_eq (rxW (wdA s).1 m).1]
  refine q0 _ ?_
  clear q0 Q0
  simp only [go_sem]
  refine aops_chunk 1 fun Q0 q0 => ?_
  simp only [↓bO, go_sem, seval, Tok.cells, qC, rwA, hw, hw2, Tm.cells_eq (rxW (wdA s).1 m).1]
  refine APure.call (LWords_pure s (by omega)) ?_
  try simp only [bS, bA, thenQ, blockQ, noGotoQ]
  iterate 6 (refine q0 _ ?_; clear q0 Q0; simp only [go_sem]; refine aops_chunk 1 fun Q0 q0 => ?_; simp only [↓bO, go_sem, seval, Tok.cells, qC, rwA, hw, hw2, Tm.cells_eq (rxW (wdA s).1 m).1])
  refine q0 _ ?_
  clear q0 Q0
  simp only [go_sem]
  simp only [↓bO, go_sem, seval, Tok.cells, qC, rwA, hw, hw2, Tm.cells_eq (rxW (wdA s).1 m).1]
  refine y0 _ ?_
  try clear y0 Y0
  refine AWp_seqK fun Y0 y0 => ?_
  refine AWp_seqK fun Y1 y1 => ?_
  refine AWp_region ?_
  refine aops_chunk 1 fun Q0 q0 => ?_
  simp only [↓bO, go_sem, seval, Tok.cells, qC, rwA, hw, hw2, Tm.cells_eq (rxW (wdA s).1 m).1]
  refine q0 _ ?_
  clear q0 Q0
  simp only [go_sem]
  simp only [↓bO, go_sem, seval, Tok.cells, qC, rwA, hw, hw2, Tm.cells_eq (rxW (wdA s).1 m).1]
  refine y1 _ ?_
  try clear y1 Y1
  refine AWp_cond rfl (fun hb19 => ?_) (fun hb19 => ?_)
  ·
   have he : ¬ (wdA s).2.2 = 0 := by simpa using hb19
   refine AWp_seqK fun Y1 y1 => ?_
   refine AWp_region ?_
   iterate 8 (refine aops_chunk 1 fun Q0 q0 => ?_; simp only [↓bO, go_sem, seval, Tok.cells, qC, rwA, hw, hw2, Tm.cells_eq (rxW (wdA s).1 m).1]; refine q0 _ ?_; clear q0 Q0; simp only [go_sem])
   simp only [↓bO, go_sem, seval, Tok.cells, qC, rwA, hw, hw2, Tm.cells_eq (rxW (wdA s).1 m).1]
   refine y1 _ ?_
   try clear y1 Y1
   refine AWp_ret ?_
   try simp only [thenQ, blockQ, noGotoQ, retQ, aRes, tupOf, bS, bA, aLoad, getO, pack, bL, Nat.reduceAdd, Nat.reduceLeDiff, Nat.reduceEqDiff, ↓reduceIte, ti40, ti38, tyX, Tok.cells, List.length_map, qC, rwA, hw, hw2, Tm.cells_eq (rxW (wdA s).1 m).1]
   unfold txA
   rw [txR_lex he]
   exact Le.tup ⟨zTm_le, .refl _, .refl _, trivial⟩
  ·
   have he : (wdA s).2.2 = 0 := by simpa using hb19
   have hl1 := hat.2.2 he
   refine AWp_skip ?_
   try simp only [thenQ, blockQ, noGotoQ]
   refine y0 _ ?_
   try clear y0 Y0
   refine AWp_seqK fun Y0 y0 => ?_
   refine AWp_region ?_
   iterate 2 (refine aops_chunk 1 fun Q0 q0 => ?_; simp only [↓bO, go_sem, seval, Tok.cells, qC, rwA, hw, hw2, Tm.cells_eq (rxW (wdA s).1 m).1]; refine q0 _ ?_; clear q0 Q0; simp only [go_sem])
   refine aops_chunk 1 fun Q0 q0 => ?_
   simp only [↓bO, go_sem, seval, Tok.cells, qC, rwA, hw, hw2, Tm.cells_eq (rxW (wdA s).1 m).1]
   refine APure.call (PTokens_pure (wdA s).1 m (by omega) (wd_gd s)) ?_
   try simp only [bS, bA, thenQ, blockQ, noGotoQ]
   iterate 7 (refine q0 _ ?_; clear q0 Q0; simp only [go_sem]; refine aops_chunk 1 fun Q0 q0 => ?_; simp only [↓bO, go_sem, seval, Tok.cells, qC, rwA, hw, hw2, Tm.cells_eq (rxW (wdA s).1 m).1])
   refine q0 _ ?_
   clear q0 Q0
   simp only [go_sem]
   simp only [↓bO, go_sem, seval, Tok.cells, qC, rwA, hw, hw2, Tm.cells_eq (rxW (wdA s).1 m).1]
   refine y0 _ ?_
   try clear y0 Y0
   refine AWp_seqK fun Y0 y0 => ?_
   refine AWp_seqK fun Y1 y1 => ?_
   refine AWp_region ?_
   refine aops_chunk 1 fun Q0 q0 => ?_
   simp only [↓bO, go_sem, seval, Tok.cells, qC, rwA, hw, hw2, Tm.cells_eq (rxW (wdA s).1 m).1]
   refine q0 _ ?_
   clear q0 Q0
   simp only [go_sem]
   simp only [↓bO, go_sem, seval, Tok.cells, qC, rwA, hw, hw2, Tm.cells_eq (rxW (wdA s).1 m).1]
   refine y1 _ ?_
   try clear y1 Y1
   refine AWp_cond rfl (fun hb34 => ?_) (fun hb34 => ?_)
   ·
    have he2 : ¬ (rxW (wdA s).1 m).2.2 = 0 := by simpa using hb34
    have hmn : min (((rxW (wdA s).1 m).2.1 : Nat) : Int) (((wdA s).1.length : Int) - 1) = ((min (rxW (wdA s).1 m).2.1 ((wdA s).1.length - 1) : Nat) : Int) := by omega
    have hml : min (rxW (wdA s).1 m).2.1 ((wdA s).1.length - 1) < (wdA s).1.length := by omega
    obtain ⟨t, ht⟩ : ∃ t, (wdA s).1[min (rxW (wdA s).1 m).2.1 ((wdA s).1.length - 1)]? = some t := ⟨_, List.getElem?_eq_getElem hml⟩
    refine AWp_seqK fun Y1 y1 => ?_
    refine NAny_start 14 [7] rfl mixed ?_
    dsimp only
    refine NAny_takeK 1 rfl (by kernel_rfl) (by kernel_rfl) (by kernel_rfl) (fun _ _ h => h) (by kernel_rfl) (fun d h => by cases h; rfl) (by kernel_rfl) (G' := [36, 7]) (by kernel_rfl) fun Q0 q0 => ?_
    simp only [↓bO, go_sem, seval, nHead, isE, isSE, isV, Tok.cells, qC, rwA, hw, hw2, Tm.cells_eq (rxW (wdA s).1 m).1, hmn, hml, gM ht]
    refine q0 _ ?_
    clear q0 Q0
    refine NAny_takeK 2 rfl (by kernel_rfl) (by kernel_rfl) (by kernel_rfl) (fun _ _ h => h) (by kernel_rfl) (fun d h => by cases h; rfl) (by kernel_rfl) (G' := [36, 7]) (by kernel_rfl) fun Q0 q0 => ?_
    simp only [↓bO, go_sem, seval, nHead, isE, isSE, isV, Tok.cells, qC, rwA, hw, hw2, Tm.cells_eq (rxW (wdA s).1 m).1, hmn, hml, gM ht]
    refine q0 _ ?_
    clear q0 Q0
    refine NAny_takeK 3 rfl (by kernel_rfl) (by kernel_rfl) (by kernel_rfl) (fun _ _ h => h) (by kernel_rfl) (fun d h => by cases h; rfl) (by kernel_rfl) (G' := [38, 36, 7]) (by kernel_rfl) fun Q0 q0 => ?_
    simp only [↓bO, go_sem, seval, nHead, isE, isSE, isV, Tok.cells, qC, rwA, hw, hw2, Tm.cells_eq (rxW (wdA s).1 m).1, hmn, hml, gM ht]
    refine q0 _ ?_
    clear q0 Q0
    refine NAny_takeK 10 rfl (by kernel_rfl) (by kernel_rfl) (by kernel_rfl) (fun _ _ h => h) (by kernel_rfl) (fun d h => by cases h; rfl) (by kernel_rfl) (G' := [38, 36, 7]) (by kernel_rfl) fun Q0 q0 => ?_
    simp only [↓bO, go_sem, seval, nHead, isE, isSE, isV, Tok.cells, qC, rwA, hw, hw2, Tm.cells_eq (rxW (wdA s).1 m).1, hmn, hml, gM ht]
    refine q0 _ ?_
    clear q0 Q0
    refine NAny_takeQ 4 rfl (by kernel_rfl) (by kernel_rfl) (by kernel_rfl) (fun _ _ h => h) (fun d h => by cases h; rfl) fun Q0 q0 => ?_
    simp only [↓bO, go_sem, seval, Tok.cells, qC, rwA, hw, hw2, Tm.cells_eq (rxW (wdA s).1 m).1, hmn, hml, gM ht]
    refine q0 _ ?_
    clear q0 Q0
    refine NAny_all2 (i := 0) (j := 5) (by kernel_rfl) rfl rfl (fun d h => by cases h; rfl) (fun d h => by cases h; rfl) ?_ ?_
    ·
     refine aAt_op rfl rfl fun Q0 q0 => ?_
     simp only [↓bO, go_sem, seval, Tok.cells, qC, rwA, hw, hw2, Tm.cells_eq (rxW (wdA s).1 m).1, hmn, hml, gM ht]
     refine q0 _ ⟨⟨rfl, rfl, rfl, trivial⟩, ?_⟩
     clear q0 Q0
     refine NAny_all2 (i := 5) (j := 11) (by kernel_rfl) rfl rfl (fun d h => by cases h; rfl) (fun d h => by cases h) ?_ ?_
     ·
      refine aAt_op rfl rfl fun Q0 q0 => ?_
      simp only [↓bO, go_sem, seval, Tok.cells, qC, rwA, hw, hw2, Tm.cells_eq (rxW (wdA s).1 m).1, hmn, hml, gM ht]
      refine q0 _ ⟨⟨rfl, rfl, rfl, trivial⟩, ?_⟩
      clear q0 Q0
      refine NAny_all2 (i := 6) (j := 11) (by kernel_rfl) rfl rfl (fun d h => by cases h; rfl) (fun d h => by cases h) ?_ ?_
      ·
       refine aAt_op rfl rfl fun Q0 q0 => ?_
       simp only [↓bO, go_sem, seval, Tok.cells, qC, rwA, hw, hw2, Tm.cells_eq (rxW (wdA s).1 m).1, hmn, hml, gM ht]
       refine q0 _ ⟨⟨rfl, rfl, rfl, trivial⟩, ?_⟩
       clear q0 Q0
       refine NAny_takeK 7 rfl (by kernel_rfl) (by kernel_rfl) (by kernel_rfl) (fun _ _ h => h) (by kernel_rfl) (fun d h => by cases h; rfl) (by kernel_rfl) (G' := [42, 38, 36, 7]) (by kernel_rfl) fun Q0 q0 => ?_
       simp only [↓bO, go_sem, seval, nHead, isE, isSE, isV, Tok.cells, qC, rwA, hw, hw2, Tm.cells_eq (rxW (wdA s).1 m).1, hmn, hml, gM ht]
       refine q0 _ ?_
       clear q0 Q0
       refine NAny_takeK 8 rfl (by kernel_rfl) (by kernel_rfl) (by kernel_rfl) (fun _ _ h => h) (by kernel_rfl) (fun d h => by cases h; rfl) (by kernel_rfl) (G' := [43, 42, 38, 36, 7]) (by kernel_rfl) fun Q0 q0 => ?_
       simp only [↓bO, go_sem, seval, nHead, isE, isSE, isV, Tok.cells, qC, rwA, hw, hw2, Tm.cells_eq (rxW (wdA s).1 m).1, hmn, hml, gM ht]
       refine q0 _ ?_
       clear q0 Q0
       refine NAny_takeK 9 rfl (by kernel_rfl) (by kernel_rfl) (by kernel_rfl) (fun _ _ h => h) (by kernel_rfl) (fun d h => by cases h; rfl) (by kernel_rfl) (G' := [44, 43, 42, 38, 36, 7]) (by kernel_rfl) fun Q0 q0 => ?_
       simp only [↓bO, go_sem, seval, nHead, isE, isSE, isV, Tok.cells, qC, rwA, hw, hw2, Tm.cells_eq (rxW (wdA s).1 m).1, hmn, hml, gM ht]
       refine q0 _ ?_
       clear q0 Q0
       refine NAny_all1 (i := 11) (by kernel_rfl) rfl (fun d h => by cases h) ?_
       refine aAt_op rfl rfl fun Q0 q0 => ?_
       simp only [↓bO, go_sem, seval, Tok.cells, qC, rwA, hw, hw2, Tm.cells_eq (rxW (wdA s).1 m).1, hmn, hml, gM ht]
       refine q0 _ ⟨⟨rfl, rfl, rfl, rfl, rfl, rfl, trivial⟩, ?_⟩
       clear q0 Q0
       refine NAny_all1 (i := 12) (by kernel_rfl) rfl (fun d h => by cases h) ?_
       refine aAt_op rfl rfl fun Q0 q0 => ?_
       simp only [↓bO, go_sem, seval, Tok.cells, qC, rwA, hw, hw2, Tm.cells_eq (rxW (wdA s).1 m).1, hmn, hml, gM ht]
       refine q0 _ ⟨⟨rfl, rfl, rfl, rfl, rfl, rfl, trivial⟩, ?_⟩
       clear q0 Q0
       refine NAny_takeQ 13 rfl (by kernel_rfl) (by kernel_rfl) (by kernel_rfl) (fun _ _ h => h) (fun d h => by cases h; rfl) fun Q0 q0 => ?_
       simp only [↓bO, go_sem, seval, Tok.cells, qC, rwA, hw, hw2, Tm.cells_eq (rxW (wdA s).1 m).1, hmn, hml, gM ht]
       refine q0 _ ?_
       clear q0 Q0
       refine NAny_done (by kernel_rfl) ?_
       simp only [thenQ, blockQ, noGotoQ]
       refine y1 _ ?_
       try clear y1 Y1
       refine AWp_ret ?_
       try simp only [thenQ, blockQ, noGotoQ, retQ, aRes, tupOf, bS, bA, aLoad, getO, pack, bL, Nat.reduceAdd, Nat.reduceLeDiff, Nat.reduceEqDiff, ↓reduceIte, ti40, ti38, tyX, Tok.cells, List.length_map, qC, rwA, hw, hw2, Tm.cells_eq (rxW (wdA s).1 m).1, hmn, hml, gM ht]
       unfold txA
       rw [txR_bad he he2]
       unfold sp
       rw [tk_at ht]
       exact Le.tup ⟨zTm_le, .refl _, .refl _, trivial⟩
      ·
       refine aAt_op rfl rfl fun Q0 q0 => ?_
       simp only [↓bO, go_sem, seval, Tok.cells, qC, rwA, hw, hw2, Tm.cells_eq (rxW (wdA s).1 m).1, hmn, hml, gM ht]
       refine q0 _ ⟨⟨rfl, rfl, rfl, trivial⟩, ?_⟩
       clear q0 Q0
       refine NAny_all1 (i := 6) (by kernel_rfl) rfl (fun d h => by cases h; rfl) ?_
       refine aAt_op rfl rfl fun Q0 q0 => ?_
       simp only [↓bO, go_sem, seval, Tok.cells, qC, rwA, hw, hw2, Tm.cells_eq (rxW (wdA s).1 m).1, hmn, hml, gM ht]
       refine q0 _ ⟨⟨rfl, rfl, rfl, trivial⟩, ?_⟩
       clear q0 Q0
       refine NAny_takeK 7 rfl (by kernel_rfl) (by kernel_rfl) (by kernel_rfl) (fun _ _ h => h) (by kernel_rfl) (fun d h => by cases h; rfl) (by kernel_rfl) (G' := [42, 38, 36, 7]) (by kernel_rfl) fun Q0 q0 => ?_
       simp only [↓bO, go_sem, seval, nHead, isE, isSE, isV, Tok.cells, qC, rwA, hw, hw2, Tm.cells_eq (rxW (wdA s).1 m).1, hmn, hml, gM ht]
       refine q0 _ ?_
       clear q0 Q0
       refine NAny_takeK 8 rfl (by kernel_rfl) (by kernel_rfl) (by kernel_rfl) (fun _ _ h => h) (by kernel_rfl) (fun d h => by cases h; rfl) (by kernel_rfl) (G' := [43, 42, 38, 36, 7]) (by kernel_rfl) fun Q0 q0 => ?_
       simp only [↓bO, go_sem, seval, nHead, isE, isSE, isV, Tok.cells, qC, rwA, hw, hw2, Tm.cells_eq (rxW (wdA s).1 m).1, hmn, hml, gM ht]
       refine q0 _ ?_
       clear q0 Q0
       refine NAny_takeK 9 rfl (by kernel_rfl) (by kernel_rfl) (by kernel_rfl) (fun _ _ h => h) (by kernel_rfl) (fun d h => by cases h; rfl) (by kernel_rfl) (G' := [44, 43, 42, 38, 36, 7]) (by kernel_rfl) fun Q0 q0 => ?_
       simp only [↓bO, go_sem, seval, nHead, isE, isSE, isV, Tok.cells, qC, rwA, hw, hw2, Tm.cells_eq (rxW (wdA s).1 m).1, hmn, hml, gM ht]
       refine q0 _ ?_
       clear q0 Q0
       refine NAny_all1 (i := 12) (by kernel_rfl) rfl (fun d h => by cases h) ?_
       refine aAt_op rfl rfl fun Q0 q0 => ?_
       simp only [↓bO, go_sem, seval, Tok.cells, qC, rwA, hw, hw2, Tm.cells_eq (rxW (wdA s).1 m).1, hmn, hml, gM ht]
       refine q0 _ ⟨⟨rfl, rfl, rfl, rfl, rfl, rfl, trivial⟩, ?_⟩
       clear q0 Q0
       refine NAny_takeQ 13 rfl (by kernel_rfl) (by kernel_rfl) (by kernel_rfl) (fun _ _ h => h) (fun d h => by cases h; rfl) fun Q0 q0 => ?_
       simp only [↓bO, go_sem, seval, Tok.cells, qC, rwA, hw, hw2, Tm.cells_eq (rxW (wdA s).1 m).1, hmn, hml, gM ht]
       refine q0 _ ?_
       clear q0 Q0
       refine NAny_done (by kernel_rfl) ?_
       simp only [thenQ, blockQ, noGotoQ]
       refine y1 _ ?_
       try clear y1 Y1
       refine AWp_ret ?_
       try simp only [thenQ, blockQ, noGotoQ, retQ, aRes, tupOf, bS, bA, aLoad, getO, pack, bL, Nat.reduceAdd, Nat.reduceLeDiff, Nat.reduceEqDiff, ↓reduceIte, ti40, ti38, tyX, Tok.cells, List.length_map, qC, rwA, hw, hw2, Tm.cells_eq (rxW (wdA s).1 m).1, hmn, hml, gM ht]
       unfold txA
       rw [txR_bad he he2]
       unfold sp
       rw [tk_at ht]
       exact Le.tup ⟨zTm_le, .refl _, .refl _, trivial⟩
     ·
      refine aAt_op rfl rfl fun Q0 q0 => ?_
      simp only [↓bO, go_sem, seval, Tok.cells, qC, rwA, hw, hw2, Tm.cells_eq (rxW (wdA s).1 m).1, hmn, hml, gM ht]
      refine q0 _ ⟨⟨rfl, rfl, rfl, trivial⟩, ?_⟩
      clear q0 Q0
      refine NAny_all1 (i := 5) (by kernel_rfl) rfl (fun d h => by cases h; rfl) ?_
      refine aAt_op rfl rfl fun Q0 q0 => ?_
      simp only [↓bO, go_sem, seval, Tok.cells, qC, rwA, hw, hw2, Tm.cells_eq (rxW (wdA s).1 m).1, hmn, hml, gM ht]
      refine q0 _ ⟨⟨rfl, rfl, rfl, trivial⟩, ?_⟩
      clear q0 Q0
      refine NAny_all1 (i := 6) (by kernel_rfl) rfl (fun d h => by cases h; rfl) ?_
      refine aAt_op rfl rfl fun Q0 q0 => ?_
      simp only [↓bO, go_sem, seval, Tok.cells, qC, rwA, hw, hw2, Tm.cells_eq (rxW (wdA s).1 m).1, hmn, hml, gM ht]
      refine q0 _ ⟨⟨rfl, rfl, rfl, trivial⟩, ?_⟩
      clear q0 Q0
      refine NAny_takeK 7 rfl (by kernel_rfl) (by kernel_rfl) (by kernel_rfl) (fun _ _ h => h) (by kernel_rfl) (fun d h => by cases h; rfl) (by kernel_rfl) (G' := [42, 38, 36, 7]) (by kernel_rfl) fun Q0 q0 => ?_
      simp only [↓bO, go_sem, seval, nHead, isE, isSE, isV, Tok.cells, qC, rwA, hw, hw2, Tm.cells_eq (rxW (wdA s).1 m).1, hmn, hml, gM ht]
      refine q0 _ ?_
      clear q0 Q0
      refine NAny_takeK 8 rfl (by kernel_rfl) (by kernel_rfl) (by kernel_rfl) (fun _ _ h => h) (by kernel_rfl) (fun d h => by cases h; rfl) (by kernel_rfl) (G' := [43, 42, 38, 36, 7]) (by kernel_rfl) fun Q0 q0 => ?_
      simp only [↓bO, go_sem, seval, nHead, isE, isSE, isV, Tok.cells, qC, rwA, hw, hw2, Tm.cells_eq (rxW (wdA s).1 m).1, hmn, hml, gM ht]
      refine q0 _ ?_
      clear q0 Q0
      refine NAny_takeK 9 rfl (by kernel_rfl) (by kernel_rfl) (by kernel_rfl) (fun _ _ h => h) (by kernel_rfl) (fun d h => by cases h; rfl) (by kernel_rfl) (G' := [44, 43, 42, 38, 36, 7]) (by kernel_rfl) fun Q0 q0 => ?_
      simp only [↓bO, go_sem, seval, nHead, isE, isSE, isV, Tok.cells, qC, rwA, hw, hw2, Tm.cells_eq (rxW (wdA s).1 m).1, hmn, hml, gM ht]
      refine q0 _ ?_
      clear q0 Q0
      refine NAny_all1 (i := 12) (by kernel_rfl) rfl (fun d h => by cases h) ?_
      refine aAt_op rfl rfl fun Q0 q0 => ?_
      simp only [↓bO, go_sem, seval, Tok.cells, qC, rwA, hw, hw2, Tm.cells_eq (rxW (wdA s).1 m).1, hmn, hml, gM ht]
      refine q0 _ ⟨⟨rfl, rfl, rfl, rfl, rfl, rfl, trivial⟩, ?_⟩
      clear q0 Q0
      refine NAny_takeQ 13 rfl (by kernel_rfl) (by kernel_rfl) (by kernel_rfl) (fun _ _ h => h) (fun d h => by cases h; rfl) fun Q0 q0 => ?_
      simp only [↓bO, go_sem, seval, Tok.cells, qC, rwA, hw, hw2, Tm.cells_eq (rxW (wdA s).1 m).1, hmn, hml, gM ht]
      refine q0 _ ?_
      clear q0 Q0
      refine NAny_done (by kernel_rfl) ?_
      simp only [thenQ, blockQ, noGotoQ]
      refine y1 _ ?_
      try clear y1 Y1
      refine AWp_ret ?_
      try simp only [thenQ, blockQ, noGotoQ, retQ, aRes, tupOf, bS, bA, aLoad, getO, pack, bL, Nat.reduceAdd, Nat.reduceLeDiff, Nat.reduceEqDiff, ↓reduceIte, ti40, ti38, tyX, Tok.cells, List.length_map, qC, rwA, hw, hw2, Tm.cells_eq (rxW (wdA s).1 m).1, hmn, hml, gM ht]
      unfold txA
      rw [txR_bad he he2]
      unfold sp
      rw [tk_at ht]
      exact Le.tup ⟨zTm_le, .refl _, .refl _, trivial⟩
    ·
     refine aAt_op rfl rfl fun Q0 q0 => ?_
     simp only [↓bO, go_sem, seval, Tok.cells, qC, rwA, hw, hw2, Tm.cells_eq (rxW (wdA s).1 m).1, hmn, hml, gM ht]
     refine q0 _ ⟨⟨rfl, rfl, rfl, trivial⟩, ?_⟩
     clear q0 Q0
     refine NAny_all2 (i := 0) (j := 6) (by kernel_rfl) rfl rfl (fun d h => by cases h; rfl) (fun d h => by cases h; rfl) ?_ ?_
     ·
      refine aAt_op rfl rfl fun Q0 q0 => ?_
      simp only [↓bO, go_sem, seval, Tok.cells, qC, rwA, hw, hw2, Tm.cells_eq (rxW (wdA s).1 m).1, hmn, hml, gM ht]
      refine q0 _ ⟨⟨rfl, rfl, rfl, trivial⟩, ?_⟩
      clear q0 Q0
      refine NAny_all2 (i := 6) (j := 11) (by kernel_rfl) rfl rfl (fun d h => by cases h; rfl) (fun d h => by cases h) ?_ ?_
      ·
       refine aAt_op rfl rfl fun Q0 q0 => ?_
       simp only [↓bO, go_sem, seval, Tok.cells, qC, rwA, hw, hw2, Tm.cells_eq (rxW (wdA s).1 m).1, hmn, hml, gM ht]
       refine q0 _ ⟨⟨rfl, rfl, rfl, trivial⟩, ?_⟩
       clear q0 Q0
       refine NAny_takeK 7 rfl (by kernel_rfl) (by kernel_rfl) (by kernel_rfl) (fun _ _ h => h) (by kernel_rfl) (fun d h => by cases h; rfl) (by kernel_rfl) (G' := [42, 38, 36, 7]) (by kernel_rfl) fun Q0 q0 => ?_
       simp only [↓bO, go_sem, seval, nHead, isE, isSE, isV, Tok.cells, qC, rwA, hw, hw2, Tm.cells_eq (rxW (wdA s).1 m).1, hmn, hml, gM ht]
       refine q0 _ ?_
       clear q0 Q0
       refine NAny_takeK 8 rfl (by kernel_rfl) (by kernel_rfl) (by kernel_rfl) (fun _ _ h => h) (by kernel_rfl) (fun d h => by cases h; rfl) (by kernel_rfl) (G' := [43, 42, 38, 36, 7]) (by kernel_rfl) fun Q0 q0 => ?_
       simp only [↓bO, go_sem, seval, nHead, isE, isSE, isV, Tok.cells, qC, rwA, hw, hw2, Tm.cells_eq (rxW (wdA s).1 m).1, hmn, hml, gM ht]
       refine q0 _ ?_
       clear q0 Q0
       refine NAny_takeK 9 rfl (by kernel_rfl) (by kernel_rfl) (by kernel_rfl) (fun _ _ h => h) (by kernel_rfl) (fun d h => by cases h; rfl) (by kernel_rfl) (G' := [44, 43, 42, 38, 36, 7]) (by kernel_rfl) fun Q0 q0 => ?_
       simp only [↓bO, go_sem, seval, nHead, isE, isSE, isV, Tok.cells, qC, rwA, hw, hw2, Tm.cells_eq (rxW (wdA s).1 m).1, hmn, hml, gM ht]
       refine q0 _ ?_
       clear q0 Q0
       refine NAny_all1 (i := 11) (by kernel_rfl) rfl (fun d h => by cases h) ?_
       refine aAt_op rfl rfl fun Q0 q0 => ?_
       simp only [↓bO, go_sem, seval, Tok.cells, qC, rwA, hw, hw2, Tm.cells_eq (rxW (wdA s).1 m).1, hmn, hml, gM ht]
       refine q0 _ ⟨⟨rfl, rfl, rfl, rfl, rfl, rfl, trivial⟩, ?_⟩
       clear q0 Q0
       refine NAny_all1 (i := 12) (by kernel_rfl) rfl (fun d h => by cases h) ?_
       refine aAt_op rfl rfl fun Q0 q0 => ?_
       simp only [↓bO, go_sem, seval, Tok.cells, qC, rwA, hw, hw2, Tm.cells_eq (rxW (wdA s).1 m).1, hmn, hml, gM ht]
       refine q0 _ ⟨⟨rfl, rfl, rfl, rfl, rfl, rfl, trivial⟩, ?_⟩
       clear q0 Q0
       refine NAny_takeQ 13 rfl (by kernel_rfl) (by kernel_rfl) (by kernel_rfl) (fun _ _ h => h) (fun d h => by cases h; rfl) fun Q0 q0 => ?_
       simp only [↓bO, go_sem, seval, Tok.cells, qC, rwA, hw, hw2, Tm.cells_eq (rxW (wdA s).1 m).1, hmn, hml, gM ht]
       refine q0 _ ?_
       clear q0 Q0
       refine NAny_done (by kernel_rfl) ?_
       simp only [thenQ, blockQ, noGotoQ]
       refine y1 _ ?_
       try clear y1 Y1
       refine AWp_ret ?_
       try simp only [thenQ, blockQ, noGotoQ, retQ, aRes, tupOf, bS, bA, aLoad, getO, pack, bL, Nat.reduceAdd, Nat.reduceLeDiff, Nat.reduceEqDiff, ↓reduceIte, ti40, ti38, tyX, Tok.cells, List.length_map, qC, rwA, hw, hw2, Tm.cells_eq (rxW (wdA s).1 m).1, hmn, hml, gM ht]
       unfold txA
       rw [txR_bad he he2]
       unfold sp
       rw [tk_at ht]
       exact Le.tup ⟨zTm_le, .refl _, .refl _, trivial⟩
      ·
       refine aAt_op rfl rfl fun Q0 q0 => ?_
       simp only [↓bO, go_sem, seval, Tok.cells, qC, rwA, hw, hw2, Tm.cells_eq (rxW (wdA s).1 m).1, hmn, hml, gM ht]
       refine q0 _ ⟨⟨rfl, rfl, rfl, trivial⟩, ?_⟩
       clear q0 Q0
       refine NAny_all1 (i := 6) (by kernel_rfl) rfl (fun d h => by cases h; rfl) ?_
       refine aAt_op rfl rfl fun Q0 q0 => ?_
       simp only [↓bO, go_sem, seval, Tok.cells, qC, rwA, hw, hw2, Tm.cells_eq (rxW (wdA s).1 m).1, hmn, hml, gM ht]
       refine q0 _ ⟨⟨rfl, rfl, rfl, trivial⟩, ?_⟩
       clear q0 Q0
       refine NAny_takeK 7 rfl (by kernel_rfl) (by kernel_rfl) (by kernel_rfl) (fun _ _ h => h) (by kernel_rfl) (fun d h => by cases h; rfl) (by kernel_rfl) (G' := [42, 38, 36, 7]) (by kernel_rfl) fun Q0 q0 => ?_
       simp only [↓bO, go_sem, seval, nHead, isE, isSE, isV, Tok.cells, qC, rwA, hw, hw2, Tm.cells_eq (rxW (wdA s).1 m).1, hmn, hml, gM ht]
       refine q0 _ ?_
       clear q0 Q0
       refine NAny_takeK 8 rfl (by kernel_rfl) (by kernel_rfl) (by kernel_rfl) (fun _ _ h => h) (by kernel_rfl) (fun d h => by cases h; rfl) (by kernel_rfl) (G' := [43, 42, 38, 36, 7]) (by kernel_rfl) fun Q0 q0 => ?_
       simp only [↓bO, go_sem, seval, nHead, isE, isSE, isV, Tok.cells, qC, rwA, hw, hw2, Tm.cells_eq (rxW (wdA s).1 m).1, hmn, hml, gM ht]
       refine q0 _ ?_
       clear q0 Q0
       refine NAny_takeK 9 rfl (by kernel_rfl) (by kernel_rfl) (by kernel_rfl) (fun _ _ h => h) (by kernel_rfl) (fun d h => by cases h; rfl) (by kernel_rfl) (G' := [44, 43, 42, 38, 36, 7]) (by kernel_rfl) fun Q0 q0 => ?_
       simp only [↓bO, go_sem, seval, nHead, isE, isSE, isV, Tok.cells, qC, rwA, hw, hw2, Tm.cells_eq (rxW (wdA s).1 m).1, hmn, hml, gM ht]
       refine q0 _ ?_
       clear q0 Q0
       refine NAny_all1 (i := 12) (by kernel_rfl) rfl (fun d h => by cases h) ?_
       refine aAt_op rfl rfl fun Q0 q0 => ?_
       simp only [↓bO, go_sem, seval, Tok.cells, qC, rwA, hw, hw2, Tm.cells_eq (rxW (wdA s).1 m).1, hmn, hml, gM ht]
       refine q0 _ ⟨⟨rfl, rfl, rfl, rfl, rfl, rfl, trivial⟩, ?_⟩
       clear q0 Q0
       refine NAny_takeQ 13 rfl (by kernel_rfl) (by kernel_rfl) (by kernel_rfl) (fun _ _ h => h) (fun d h => by cases h; rfl) fun Q0 q0 => ?_
       simp only [↓bO, go_sem, seval, Tok.cells, qC, rwA, hw, hw2, Tm.cells_eq (rxW (wdA s).1 m).1, hmn, hml, gM ht]
       refine q0 _ ?_
       clear q0 Q0
       refine NAny_done (by kernel_rfl) ?_
       simp only [thenQ, blockQ, noGotoQ]
       refine y1 _ ?_
       try clear y1 Y1
       refine AWp_ret ?_
       try simp only [thenQ, blockQ, noGotoQ, retQ, aRes, tupOf, bS, bA, aLoad, getO, pack, bL, Nat.reduceAdd, Nat.reduceLeDiff, Nat.reduceEqDiff, ↓reduceIte, ti40, ti38, tyX, Tok.cells, List.length_map, qC, rwA, hw, hw2, Tm.cells_eq (rxW (wdA s).1 m).1, hmn, hml, gM ht]
       unfold txA
       rw [txR_bad he he2]
       unfold sp
       rw [tk_at ht]
       exact Le.tup ⟨zTm_le, .refl _, .refl _, trivial⟩
     ·
      refine aAt_op rfl rfl fun Q0 q0 => ?_
      simp only [↓bO, go_sem, seval, Tok.cells, qC, rwA, hw, hw2, Tm.cells_eq (rxW (wdA s).1 m).1, hmn, hml, gM ht]
      refine q0 _ ⟨⟨rfl, rfl, rfl, trivial⟩, ?_⟩
      clear q0 Q0
      refine NAny_takeK 7 rfl (by kernel_rfl) (by kernel_rfl) (by kernel_rfl) (fun _ _ h => h) (by kernel_rfl) (fun d h => by cases h; rfl) (by kernel_rfl) (G' := [42, 38, 36, 7]) (by kernel_rfl) fun Q0 q0 => ?_
      simp only [↓bO, go_sem, seval, nHead, isE, isSE, isV, Tok.cells, qC, rwA, hw, hw2, Tm.cells_eq (rxW (wdA s).1 m).1, hmn, hml, gM ht]
      refine q0 _ ?_
      clear q0 Q0
      refine NAny_takeK 8 rfl (by kernel_rfl) (by kernel_rfl) (by kernel_rfl) (fun _ _ h => h) (by kernel_rfl) (fun d h => by cases h; rfl) (by kernel_rfl) (G' := [43, 42, 38, 36, 7]) (by kernel_rfl) fun Q0 q0 => ?_
      simp only [↓bO, go_sem, seval, nHead, isE, isSE, isV, Tok.cells, qC, rwA, hw, hw2, Tm.cells_eq (rxW (wdA s).1 m).1, hmn, hml, gM ht]
      refine q0 _ ?_
      clear q0 Q0
      refine NAny_takeK 9 rfl (by kernel_rfl) (by kernel_rfl) (by kernel_rfl) (fun _ _ h => h) (by kernel_rfl) (fun d h => by cases h; rfl) (by kernel_rfl) (G' := [44, 43, 42, 38, 36, 7]) (by kernel_rfl) fun Q0 q0 => ?_
      simp only [↓bO, go_sem, seval, nHead, isE, isSE, isV, Tok.cells, qC, rwA, hw, hw2, Tm.cells_eq (rxW (wdA s).1 m).1, hmn, hml, gM ht]
      refine q0 _ ?_
      clear q0 Q0
      refine NAny_all1 (i := 0) (by kernel_rfl) rfl (fun d h => by cases h; rfl) ?_
      refine aAt_op rfl rfl fun Q0 q0 => ?_
      simp only [↓bO, go_sem, seval, Tok.cells, qC, rwA, hw, hw2, Tm.cells_eq (rxW (wdA s).1 m).1, hmn, hml, gM ht]
      refine q0 _ ⟨⟨rfl, rfl, rfl, rfl, rfl, rfl, trivial⟩, ?_⟩
      clear q0 Q0
      refine NAny_all1 (i := 11) (by kernel_rfl) rfl (fun d h => by cases h) ?_
      refine aAt_op rfl rfl fun Q0 q0 => ?_
      simp only [↓bO, go_sem, seval, Tok.cells, qC, rwA, hw, hw2, Tm.cells_eq (rxW (wdA s).1 m).1, hmn, hml, gM ht]
      refine q0 _ ⟨⟨rfl, rfl, rfl, rfl, rfl, rfl, trivial⟩, ?_⟩
      clear q0 Q0
      refine NAny_all1 (i := 12) (by kernel_rfl) rfl (fun d h => by cases h) ?_
      refine aAt_op rfl rfl fun Q0 q0 => ?_
      simp only [↓bO, go_sem, seval, Tok.cells, qC, rwA, hw, hw2, Tm.cells_eq (rxW (wdA s).1 m).1, hmn, hml, gM ht]
      refine q0 _ ⟨⟨rfl, rfl, rfl, rfl, rfl, rfl, trivial⟩, ?_⟩
      clear q0 Q0
      refine NAny_takeQ 13 rfl (by kernel_rfl) (by kernel_rfl) (by kernel_rfl) (fun _ _ h => h) (fun d h => by cases h; rfl) fun Q0 q0 => ?_
      simp only [↓bO, go_sem, seval, Tok.cells, qC, rwA, hw, hw2, Tm.cells_eq (rxW (wdA s).1 m).1, hmn, hml, gM ht]
      refine q0 _ ?_
      clear q0 Q0
      refine NAny_done (by kernel_rfl) ?_
      simp only [thenQ, blockQ, noGotoQ]
      refine y1 _ ?_
      try clear y1 Y1
      refine AWp_ret ?_
      try simp only [thenQ, blockQ, noGotoQ, retQ, aRes, tupOf, bS, bA, aLoad, getO, pack, bL, Nat.reduceAdd, Nat.reduceLeDiff, Nat.reduceEqDiff, ↓reduceIte, ti40, ti38, tyX, Tok.cells, List.length_map, qC, rwA, hw, hw2, Tm.cells_eq (rxW (wdA s).1 m).1, hmn, hml, gM ht]
      unfold txA
      rw [txR_bad he he2]
      unfold sp
      rw [tk_at ht]
      exact Le.tup ⟨zTm_le, .refl _, .refl _, trivial⟩
   ·
    have he2 : (rxW (wdA s).1 m).2.2 = 0 := by simpa using hb34
    refine AWp_skip ?_
    try simp only [thenQ, blockQ, noGotoQ]
    refine y0 _ ?_
    try clear y0 Y0
    refine AWp_seqK fun Y0 y0 => ?_
    refine AWp_region ?_
    iterate 4 (refine aops_chunk 1 fun Q0 q0 => ?_; simp only [↓bO, go_sem, seval, Tok.cells, qC, rwA, hw, hw2, Tm.cells_eq (rxW (wdA s).1 m).1]; refine q0 _ ?_; clear q0 Q0; simp only [go_sem])
    simp only [↓bO, go_sem, seval, Tok.cells, qC, rwA, hw, hw2, Tm.cells_eq (rxW (wdA s).1 m).1]
    refine y0 _ ?_
    try clear y0 Y0
    refine AWp_ret ?_
    try simp only [thenQ, blockQ, noGotoQ, retQ, aRes, tupOf, bS, bA, aLoad, getO, pack, bL, Nat.reduceAdd, Nat.reduceLeDiff, Nat.reduceEqDiff, ↓reduceIte, ti40, ti38, tyX, Tok.cells, List.length_map, qC, rwA, hw, hw2, Tm.cells_eq (rxW (wdA s).1 m).1]
    unfold txA
    rw [txR_ok he he2, Tm.cells_eq]
    exact Le.refl _
def lvDn (l : List Tok) : Nat → Nat
  | 0 => 0
  | k + 1 => if (rxW l k).2.2 = 0 then lvDn l k else k + 1
def lvN (l : List Tok) : Nat := lvDn l (2 * l.length + 2)
theorem lvDn_spec {l : List Tok} : ∀ k : Nat, (rxW l k).2.2 = 0 → 0 < lvDn l k ∧ lvDn l k ≤ k ∧ ∀ m : Int, (rxW l m).2.2 = 0 ↔ (lvDn l k : Int) ≤ m
  | 0, h => by
    have := rxW_lv0 l (m := ((0 : Nat) : Int)) (by decide)
    rw [this] at h
    exact absurd h (by decide)
  | k + 1, hk => by
    unfold lvDn
    by_cases h1 : (rxW l k).2.2 = 0
    · rw [if_pos h1]
      obtain ⟨h2, h3, h4⟩ := lvDn_spec k h1
      exact ⟨h2, by omega, h4⟩
    · rw [if_neg h1]
      refine ⟨by omega, Nat.le_refl _, fun m => ⟨fun h2 => ?_, fun h2 => ?_⟩⟩
      · rcases Int.lt_or_le m (k + 1 : Nat) with h3 | h3
        · exact absurd (by rw [rxW_same (m := m) (m' := k) (by omega) (z4 h2)]; exact h2) h1
        · exact h3
      · rw [rxW_same h2 (z4 hk)]
        exact hk
theorem lvN_spec {l : List Tok} {M : Int} (hM : 2 * (l.length : Int) + 2 ≤ M) (h : (rxW l M).2.2 = 0) : 0 < lvN l ∧ lvN l ≤ 2 * l.length + 2 ∧ ∀ m : Int, (rxW l m).2.2 = 0 ↔ (lvN l : Int) ≤ m := by
  have h1 : rxW l M = rxW l ((2 * l.length + 2 : Nat) : Int) := rxW_all (by omega) M (by omega)
  rw [h1] at h
  exact lvDn_spec _ h
def lvR (s : ByteArray) : Int × Bool := if (wdA s).2.2 = 0 then if (rxW (wdA s).1 9223372036854775807).2.2 = 0 then ((lvN (wdA s).1 : Int), true) else (0, false) else (0, false)
theorem Und.lvToks {n : Nat} {l : List Tok} : Und n (.sl 4 (l.map Tok.cells)) := .data (Tok.dataSl _)
def lvA (s : ByteArray) : AV := .tup [.v (.int .i64 (lvR s).1), .v (.bool (lvR s).2)]
section
variable {s : ByteArray}
theorem lvR_lex (h : ¬ (wdA s).2.2 = 0) : lvR s = (0, false) := if_neg h
theorem lvR_bad (h : (wdA s).2.2 = 0) (h2 : ¬ (rxW (wdA s).1 9223372036854775807).2.2 = 0) : lvR s = (0, false) := by
  unfold lvR
  rw [if_pos h, if_neg h2]
theorem lvR_ok (h : (wdA s).2.2 = 0) (h2 : (rxW (wdA s).1 9223372036854775807).2.2 = 0) : lvR s = ((lvN (wdA s).1 : Int), true) := by
  unfold lvR
  rw [if_pos h, if_pos h2]
end
theorem Level_pure (s : ByteArray) (hs : s.size ≤ 90000) : APure Tryd.prog 11 [.v (.string s)] (lvA s) := by
  refine APure.mkL (.cons (.v _) .nil) ((.tup (.cons (.v _) (.cons (.v _) .nil)))) ?_
  refine ACalls_intro Tryd.func11 (by kernel_rfl) rfl (by rw [Tryd.ntmps11]; simp) (fun hm => ?_)
  simp only [Tryd.ntmps11, Tryd.results11, List.length_cons, List.length_nil, Nat.reduceAdd, Nat.reduceSub, List.replicate_succ, List.replicate_zero, List.cons_append, List.nil_append]
  have hln := wd_len s
  refine AWp_seqK fun Y0 y0 => ?_
  refine AWp_region ?_
  refine aops_chunk 1 fun Q0 q0 => ?_
  simp only [↓bO, go_sem, seval, Tok.cells, qC, rwA, Tm.cells_eq (rxW (wdA s).1 9223372036854775807).1, List.take, List.drop]
  refine q0 _ ?_
  clear q0 Q0
  simp only [go_sem]
  simp only [↓bO, go_sem, seval, Tok.cells, qC, rwA, Tm.cells_eq (rxW (wdA s).1 9223372036854775807).1, List.take, List.drop]
  refine y0 _ ?_
  try clear y0 Y0
  refine AWp_seqK fun Y0 y0 => ?_
  refine AWp_region ?_
  refine aops_chunk 1 fun Q0 q0 => ?_
  simp only [↓bO, go_sem, seval, Tok.cells, qC, rwA, Tm.cells_eq (rxW (wdA s).1 9223372036854775807).1, List.take, List.drop]
  refine q0 _ ?_
  clear q0 Q0
  simp only [go_sem]
  refine aops_chunk 1 fun Q0 q0 => ?_
  simp only [↓bO, go_sem, seval, Tok.cells, qC, rwA, Tm.cells_eq (rxW (wdA s).1 9223372036854775807).1, List.take, List.drop]
  refine APure.call (LWords_pure s (by omega)) ?_
  try simp only [bS, bA, thenQ, blockQ, noGotoQ]
  iterate 6 (refine q0 _ ?_; clear q0 Q0; simp only [go_sem]; refine aops_chunk 1 fun Q0 q0 => ?_; simp only [↓bO, go_sem, seval, Tok.cells, qC, rwA, Tm.cells_eq (rxW (wdA s).1 9223372036854775807).1, List.take, List.drop])
  refine q0 _ ?_
  clear q0 Q0
  simp only [go_sem]
  simp only [↓bO, go_sem, seval, Tok.cells, qC, rwA, Tm.cells_eq (rxW (wdA s).1 9223372036854775807).1, List.take, List.drop]
  refine y0 _ ?_
  try clear y0 Y0
  refine AWp_seqK fun Y0 y0 => ?_
  refine AWp_seqK fun Y1 y1 => ?_
  refine AWp_region ?_
  refine aops_chunk 1 fun Q0 q0 => ?_
  simp only [↓bO, go_sem, seval, Tok.cells, qC, rwA, Tm.cells_eq (rxW (wdA s).1 9223372036854775807).1, List.take, List.drop]
  refine q0 _ ?_
  clear q0 Q0
  simp only [go_sem]
  simp only [↓bO, go_sem, seval, Tok.cells, qC, rwA, Tm.cells_eq (rxW (wdA s).1 9223372036854775807).1, List.take, List.drop]
  refine y1 _ ?_
  try clear y1 Y1
  refine AWp_cond rfl (fun hb23 => ?_) (fun hb23 => ?_)
  ·
   have he : ¬ (wdA s).2.2 = 0 := by simpa using hb23
   refine AWp_seqK fun Y1 y1 => ?_
   refine AWp_region ?_
   refine aops_chunk 1 fun Q0 q0 => ?_
   simp only [↓bO, go_sem, seval, Tok.cells, qC, rwA, Tm.cells_eq (rxW (wdA s).1 9223372036854775807).1, List.take, List.drop]
   refine q0 _ ?_
   clear q0 Q0
   simp only [go_sem]
   simp only [↓bO, go_sem, seval, Tok.cells, qC, rwA, Tm.cells_eq (rxW (wdA s).1 9223372036854775807).1, List.take, List.drop]
   refine y1 _ ?_
   try clear y1 Y1
   refine AWp_ret ?_
   try simp only [thenQ, blockQ, noGotoQ, retQ, aRes, tupOf, bS, bA]
   unfold lvA
   rw [lvR_lex he]
   exact Le.refl _
  ·
   have he : (wdA s).2.2 = 0 := by simpa using hb23
   refine AWp_skip ?_
   try simp only [thenQ, blockQ, noGotoQ]
   refine y0 _ ?_
   try clear y0 Y0
   refine AWp_seqK fun Y0 y0 => ?_
   refine AWp_seqK fun Y1 y1 => ?_
   refine AWp_region ?_
   refine aops_chunk 1 fun Q0 q0 => ?_
   simp only [↓bO, go_sem, seval, Tok.cells, qC, rwA, Tm.cells_eq (rxW (wdA s).1 9223372036854775807).1, List.take, List.drop]
   refine q0 _ ?_
   clear q0 Q0
   simp only [go_sem]
   refine aops_chunk 1 fun Q0 q0 => ?_
   simp only [↓bO, go_sem, seval, Tok.cells, qC, rwA, Tm.cells_eq (rxW (wdA s).1 9223372036854775807).1, List.take, List.drop]
   refine APure.call (PTokens_pure (wdA s).1 9223372036854775807 (by omega) (wd_gd s)) ?_
   try simp only [bS, bA, thenQ, blockQ, noGotoQ]
   iterate 7 (refine q0 _ ?_; clear q0 Q0; simp only [go_sem]; refine aops_chunk 1 fun Q0 q0 => ?_; simp only [↓bO, go_sem, seval, Tok.cells, qC, rwA, Tm.cells_eq (rxW (wdA s).1 9223372036854775807).1, List.take, List.drop])
   refine q0 _ ?_
   clear q0 Q0
   simp only [go_sem]
   simp only [↓bO, go_sem, seval, Tok.cells, qC, rwA, Tm.cells_eq (rxW (wdA s).1 9223372036854775807).1, List.take, List.drop]
   refine y1 _ ?_
   try clear y1 Y1
   refine AWp_seqK fun Y1 y1 => ?_
   refine AWp_region ?_
   refine aops_chunk 1 fun Q0 q0 => ?_
   simp only [↓bO, go_sem, seval, Tok.cells, qC, rwA, Tm.cells_eq (rxW (wdA s).1 9223372036854775807).1, List.take, List.drop]
   refine q0 _ ?_
   clear q0 Q0
   simp only [go_sem]
   simp only [↓bO, go_sem, seval, Tok.cells, qC, rwA, Tm.cells_eq (rxW (wdA s).1 9223372036854775807).1, List.take, List.drop]
   refine y1 _ ?_
   try clear y1 Y1
   refine AWp_cond rfl (fun hb31 => ?_) (fun hb31 => ?_)
   ·
    have he2 : ¬ (rxW (wdA s).1 9223372036854775807).2.2 = 0 := by simpa using hb31
    refine AWp_seqK fun Y1 y1 => ?_
    refine AWp_region ?_
    refine aops_chunk 1 fun Q0 q0 => ?_
    simp only [↓bO, go_sem, seval, Tok.cells, qC, rwA, Tm.cells_eq (rxW (wdA s).1 9223372036854775807).1, List.take, List.drop]
    refine q0 _ ?_
    clear q0 Q0
    simp only [go_sem]
    simp only [↓bO, go_sem, seval, Tok.cells, qC, rwA, Tm.cells_eq (rxW (wdA s).1 9223372036854775807).1, List.take, List.drop]
    refine y1 _ ?_
    try clear y1 Y1
    refine AWp_ret ?_
    try simp only [thenQ, blockQ, noGotoQ, retQ, aRes, tupOf, bS, bA]
    unfold lvA
    rw [lvR_bad he he2]
    exact Le.refl _
   ·
    have he2 : (rxW (wdA s).1 9223372036854775807).2.2 = 0 := by simpa using hb31
    have hsp := lvN_spec (by omega) he2
    have hw : IntKind.i64.wrap (2 * ((wdA s).1.length : Int)) = 2 * ((wdA s).1.length : Int) := by (rw [wrap_in (by omega) (by omega)])
    have hw2 : IntKind.i64.wrap (2 * ((wdA s).1.length : Int) + 2) = ((2 * (wdA s).1.length + 2 : Nat) : Int) := by (rw [wrap_in (by omega) (by omega)]; omega)
    refine AWp_skip ?_
    try simp only [thenQ, blockQ, noGotoQ]
    refine y0 _ ?_
    try clear y0 Y0
    refine AWp_seqK fun Y0 y0 => ?_
    refine AWp_region ?_
    iterate 5 (refine aops_chunk 1 fun Q0 q0 => ?_; simp only [↓bO, go_sem, seval, Tok.cells, qC, rwA, Tm.cells_eq (rxW (wdA s).1 9223372036854775807).1, List.take, List.drop, hw, hw2]; refine q0 _ ?_; clear q0 Q0; simp only [go_sem])
    simp only [↓bO, go_sem, seval, Tok.cells, qC, rwA, Tm.cells_eq (rxW (wdA s).1 9223372036854775807).1, List.take, List.drop, hw, hw2]
    refine y0 _ ?_
    try clear y0 Y0
    refine AWp_seqK fun Y0 y0 => ?_
    refine AWp_block ?_
    refine AWp_loopM (σ := Nat × Nat) (mB 56 3088) (fun w => w.1 < lvN (wdA s).1 ∧ lvN (wdA s).1 ≤ w.2 ∧ w.2 ≤ 2 * (wdA s).1.length + 2) (fun w => [(10, .v (.int .i64 (w.1 : Int))), (11, .v (.int .i64 (w.2 : Int)))]) (fun w => []) (fun w => w.2 - w.1) (0, 2 * (wdA s).1.length + 2) (⟨hsp.1, hsp.2.1, Nat.le_refl _⟩) ?_ (fun w hw0 => ?_)
    ·
     try simp only [maskL, setsL, putsO, putO, mB, List.set_cons_zero, List.set_cons_succ, seval]
     exact Weak.mk (by simp only [go_sem, Le.refl, Le.any, Le.slNil, Int.natCast_add, Int.cast_ofNat_Int, Int.natCast_one]) (fun _ _ h => h) rfl rfl
    simp only [maskL, setsL, putsO, putO, mB, List.set_cons_zero, List.set_cons_succ, seval]
    have hw3 : IntKind.i64.wrap ((w.2 : Int) - (w.1 : Int)) = (w.2 : Int) - (w.1 : Int) := by (rw [wrap_in (by omega) (by omega)])
    have hw4 : IntKind.i64.wrap ((w.1 : Int) + (w.2 : Int)) = (w.1 : Int) + (w.2 : Int) := by (rw [wrap_in (by omega) (by omega)])
    have hw5 : IntKind.i64.wrap (((w.1 : Int) + (w.2 : Int)).tdiv 2) = ((((w.1 + w.2) / 2) : Nat) : Int) := by (rw [Int.tdiv_eq_ediv_of_nonneg (by omega), wrap_in (by omega) (by omega)]; omega)
    refine AWp_seqK fun Y1 y1 => ?_
    refine AWp_seqK fun Y2 y2 => ?_
    refine AWp_region ?_
    iterate 3 (refine aops_chunk 1 fun Q0 q0 => ?_; simp only [↓bO, go_sem, seval, Tok.cells, qC, rwA, Tm.cells_eq (rxW (wdA s).1 9223372036854775807).1, List.take, List.drop, hw3, hw4, hw5, Tm.cells_eq (rxW (wdA s).1 ((((w.1 + w.2) / 2) : Nat) : Int)).1, hw, hw2]; refine q0 _ ?_; clear q0 Q0; simp only [go_sem])
    simp only [↓bO, go_sem, seval, Tok.cells, qC, rwA, Tm.cells_eq (rxW (wdA s).1 9223372036854775807).1, List.take, List.drop, hw3, hw4, hw5, Tm.cells_eq (rxW (wdA s).1 ((((w.1 + w.2) / 2) : Nat) : Int)).1, hw, hw2]
    refine y2 _ ?_
    try clear y2 Y2
    refine AWp_cond rfl (fun hb39 => ?_) (fun hb39 => ?_)
    ·
     have hgt : w.1 + 1 < w.2 := by (have h9 := hb39; simp at h9; omega)
     refine AWp_skip ?_
     try simp only [thenQ, blockQ, noGotoQ]
     refine y1 _ ?_
     try clear y1 Y1
     refine AWp_block ?_
     refine AWp_seqK fun Y1 y1 => ?_
     refine AWp_region ?_
     iterate 4 (refine aops_chunk 1 fun Q0 q0 => ?_; simp only [↓bO, go_sem, seval, Tok.cells, qC, rwA, Tm.cells_eq (rxW (wdA s).1 9223372036854775807).1, List.take, List.drop, hw3, hw4, hw5, Tm.cells_eq (rxW (wdA s).1 ((((w.1 + w.2) / 2) : Nat) : Int)).1, hw, hw2]; refine q0 _ ?_; clear q0 Q0; simp only [go_sem])
     simp only [↓bO, go_sem, seval, Tok.cells, qC, rwA, Tm.cells_eq (rxW (wdA s).1 9223372036854775807).1, List.take, List.drop, hw3, hw4, hw5, Tm.cells_eq (rxW (wdA s).1 ((((w.1 + w.2) / 2) : Nat) : Int)).1, hw, hw2]
     refine y1 _ ?_
     try clear y1 Y1
     refine AWp_seqK fun Y1 y1 => ?_
     refine AWp_region ?_
     iterate 2 (refine aops_chunk 1 fun Q0 q0 => ?_; simp only [↓bO, go_sem, seval, Tok.cells, qC, rwA, Tm.cells_eq (rxW (wdA s).1 9223372036854775807).1, List.take, List.drop, hw3, hw4, hw5, Tm.cells_eq (rxW (wdA s).1 ((((w.1 + w.2) / 2) : Nat) : Int)).1, hw, hw2]; refine q0 _ ?_; clear q0 Q0; simp only [go_sem])
     refine aops_chunk 1 fun Q0 q0 => ?_
     simp only [↓bO, go_sem, seval, Tok.cells, qC, rwA, Tm.cells_eq (rxW (wdA s).1 9223372036854775807).1, List.take, List.drop, hw3, hw4, hw5, Tm.cells_eq (rxW (wdA s).1 ((((w.1 + w.2) / 2) : Nat) : Int)).1, hw, hw2]
     refine APure.call (PTokens_pure (wdA s).1 ((((w.1 + w.2) / 2) : Nat) : Int) (by omega) (wd_gd s)) ?_
     try simp only [bS, bA, thenQ, blockQ, noGotoQ]
     iterate 7 (refine q0 _ ?_; clear q0 Q0; simp only [go_sem]; refine aops_chunk 1 fun Q0 q0 => ?_; simp only [↓bO, go_sem, seval, Tok.cells, qC, rwA, Tm.cells_eq (rxW (wdA s).1 9223372036854775807).1, List.take, List.drop, hw3, hw4, hw5, Tm.cells_eq (rxW (wdA s).1 ((((w.1 + w.2) / 2) : Nat) : Int)).1, hw, hw2])
     refine q0 _ ?_
     clear q0 Q0
     simp only [go_sem]
     simp only [↓bO, go_sem, seval, Tok.cells, qC, rwA, Tm.cells_eq (rxW (wdA s).1 9223372036854775807).1, List.take, List.drop, hw3, hw4, hw5, Tm.cells_eq (rxW (wdA s).1 ((((w.1 + w.2) / 2) : Nat) : Int)).1, hw, hw2]
     refine y1 _ ?_
     try clear y1 Y1
     refine AWp_seqK fun Y1 y1 => ?_
     refine AWp_region ?_
     refine aops_chunk 1 fun Q0 q0 => ?_
     simp only [↓bO, go_sem, seval, Tok.cells, qC, rwA, Tm.cells_eq (rxW (wdA s).1 9223372036854775807).1, List.take, List.drop, hw3, hw4, hw5, Tm.cells_eq (rxW (wdA s).1 ((((w.1 + w.2) / 2) : Nat) : Int)).1, hw, hw2]
     refine q0 _ ?_
     clear q0 Q0
     simp only [go_sem]
     simp only [↓bO, go_sem, seval, Tok.cells, qC, rwA, Tm.cells_eq (rxW (wdA s).1 9223372036854775807).1, List.take, List.drop, hw3, hw4, hw5, Tm.cells_eq (rxW (wdA s).1 ((((w.1 + w.2) / 2) : Nat) : Int)).1, hw, hw2]
     refine y1 _ ?_
     try clear y1 Y1
     refine AWp_cond rfl (fun hb52 => ?_) (fun hb52 => ?_)
     ·
      have hok : (rxW (wdA s).1 ((((w.1 + w.2) / 2) : Nat) : Int)).2.2 = 0 := by simpa using hb52
      have hle := (hsp.2.2 _).1 hok
      refine AWp_region ?_
      refine aops_chunk 1 fun Q0 q0 => ?_
      simp only [↓bO, go_sem, seval, Tok.cells, qC, rwA, Tm.cells_eq (rxW (wdA s).1 9223372036854775807).1, List.take, List.drop, hw3, hw4, hw5, Tm.cells_eq (rxW (wdA s).1 ((((w.1 + w.2) / 2) : Nat) : Int)).1, hw, hw2]
      refine q0 _ ?_
      clear q0 Q0
      simp only [go_sem]
      simp only [↓bO, go_sem, seval, Tok.cells, qC, rwA, Tm.cells_eq (rxW (wdA s).1 9223372036854775807).1, List.take, List.drop, hw3, hw4, hw5, Tm.cells_eq (rxW (wdA s).1 ((((w.1 + w.2) / 2) : Nat) : Int)).1, hw, hw2]
      refine ⟨(w.1, ((w.1 + w.2) / 2)), ⟨hw0.1, by simp only; omega, by simp only; omega⟩, (by simp only; omega), ?_⟩
      simp only [maskL, setsL, putsO, putO, mB, List.set_cons_zero, List.set_cons_succ, seval, hw3, hw4, hw5, Tm.cells_eq (rxW (wdA s).1 ((((w.1 + w.2) / 2) : Nat) : Int)).1, hw, hw2]
      first | (refine Weak.drops 1 1 rfl rfl (by simp only; omega) (by simp only; omega) ?_ ?_ ?_) | (refine Weak.drops 0 1 rfl rfl (by simp only; omega) (by simp only; omega) ?_ ?_ ?_)
      · simp only [go_sem, Le.refl, Le.any, Int.natCast_add, Int.cast_ofNat_Int, Int.natCast_one]
      · simp only [UndL, UndOs, Ob.Und, and_true, true_and, and_self, Und.v, Und.any, Und.ptr, Und.map, Nat.reduceLT, Nat.zero_lt_succ, Und.tys, Und.tyAgg, Und.oslTys, Und.oslTys1, Und.clo0, Und.ty, Und.lvToks, Und.tms]
      · simp only [UndL, UndOs, Ob.Und, and_true, true_and, and_self, Und.v, Und.any, Und.ptr, Und.map, Nat.reduceLT, Nat.zero_lt_succ, Und.tys, Und.tyAgg, Und.oslTys, Und.oslTys1, Und.clo0, Und.ty, Und.lvToks, Und.tms]
     ·
      have hok : ¬ (rxW (wdA s).1 ((((w.1 + w.2) / 2) : Nat) : Int)).2.2 = 0 := by simpa using hb52
      have hle : ¬ (lvN (wdA s).1 : Int) ≤ ((((w.1 + w.2) / 2) : Nat) : Int) := fun g => hok ((hsp.2.2 _).2 g)
      refine AWp_region ?_
      refine aops_chunk 1 fun Q0 q0 => ?_
      simp only [↓bO, go_sem, seval, Tok.cells, qC, rwA, Tm.cells_eq (rxW (wdA s).1 9223372036854775807).1, List.take, List.drop, hw3, hw4, hw5, Tm.cells_eq (rxW (wdA s).1 ((((w.1 + w.2) / 2) : Nat) : Int)).1, hw, hw2]
      refine q0 _ ?_
      clear q0 Q0
      simp only [go_sem]
      simp only [↓bO, go_sem, seval, Tok.cells, qC, rwA, Tm.cells_eq (rxW (wdA s).1 9223372036854775807).1, List.take, List.drop, hw3, hw4, hw5, Tm.cells_eq (rxW (wdA s).1 ((((w.1 + w.2) / 2) : Nat) : Int)).1, hw, hw2]
      refine ⟨(((w.1 + w.2) / 2), w.2), ⟨by simp only; omega, hw0.2.1, hw0.2.2⟩, (by simp only; omega), ?_⟩
      simp only [maskL, setsL, putsO, putO, mB, List.set_cons_zero, List.set_cons_succ, seval, hw3, hw4, hw5, Tm.cells_eq (rxW (wdA s).1 ((((w.1 + w.2) / 2) : Nat) : Int)).1, hw, hw2]
      first | (refine Weak.drops 1 1 rfl rfl (by simp only; omega) (by simp only; omega) ?_ ?_ ?_) | (refine Weak.drops 0 1 rfl rfl (by simp only; omega) (by simp only; omega) ?_ ?_ ?_)
      · simp only [go_sem, Le.refl, Le.any, Int.natCast_add, Int.cast_ofNat_Int, Int.natCast_one]
      · simp only [UndL, UndOs, Ob.Und, and_true, true_and, and_self, Und.v, Und.any, Und.ptr, Und.map, Nat.reduceLT, Nat.zero_lt_succ, Und.tys, Und.tyAgg, Und.oslTys, Und.oslTys1, Und.clo0, Und.ty, Und.lvToks, Und.tms]
      · simp only [UndL, UndOs, Ob.Und, and_true, true_and, and_self, Und.v, Und.any, Und.ptr, Und.map, Nat.reduceLT, Nat.zero_lt_succ, Und.tys, Und.tyAgg, Und.oslTys, Und.oslTys1, Und.clo0, Und.ty, Und.lvToks, Und.tms]
    ·
     have hgt : ¬ w.1 + 1 < w.2 := by (have h9 := hb39; simp at h9; omega)
     refine AWp_exit ?_
     simp only [thenQ, blockQ, noGotoQ, bA, Nat.reduceEqDiff, ↓reduceIte]
     refine y0 _ ?_
     try clear y0 Y0
     refine AWp_seqK fun Y0 y0 => ?_
     refine AWp_region ?_
     iterate 2 (refine aops_chunk 1 fun Q0 q0 => ?_; simp only [↓bO, go_sem, seval, Tok.cells, qC, rwA, Tm.cells_eq (rxW (wdA s).1 9223372036854775807).1, List.take, List.drop, hw, hw2]; refine q0 _ ?_; clear q0 Q0; simp only [go_sem])
     simp only [↓bO, go_sem, seval, Tok.cells, qC, rwA, Tm.cells_eq (rxW (wdA s).1 9223372036854775807).1, List.take, List.drop, hw, hw2]
     refine y0 _ ?_
     try clear y0 Y0
     refine AWp_ret ?_
     try simp only [thenQ, blockQ, noGotoQ, retQ, aRes, tupOf, bS, bA]
     unfold lvA
     rw [lvR_ok he he2]
     have hfin : w.2 = lvN (wdA s).1 := by omega
     rw [← hfin]
     exact Le.refl _
end Go.Proofs.YtkokfdmggdhfmaaDoor
