/- Texts of the abstract walk, of the contracts and of the plain laws, packed (part 43 of 48): Tq12 Tq13 Tq14 Tq15. Conditions: none. -/
import Derived.Test.YtmepcmphcghbeaaDoorPk42
namespace Go.Proofs.YtmepcmphcghbeaaDoor
open Go Go.RowKit
set_option maxRecDepth 100000
set_option maxHeartbeats 4000000
set_option linter.unusedSimpArgs false
set_option linter.unnecessarySimpa false
set_option linter.unusedVariables false
attribute [local irreducible] aops dRun
def kfold (f : ByteArray) : Nat → Int
  | 0 => 0
  | n + 1 => if kndB n = true ∧ eqS (wdS n) f = true then n else kfold f n
theorem kfold_yes {f : ByteArray} {n : Nat} (h : kndB n = true) (h1 : ((wdS n).toList == f.toList) = true) : kfold f (n + 1) = n := if_pos ⟨h, h1⟩
theorem kfold_no1 {f : ByteArray} {n : Nat} (h : kndB n = false) : kfold f (n + 1) = kfold f n := if_neg (by simp [h])
theorem kfold_no2 {f : ByteArray} {n : Nat} (h1 : ((wdS n).toList == f.toList) = false) : kfold f (n + 1) = kfold f n := if_neg fun h => by rw [show eqS (wdS n) f = false from h1] at h; cases h.2
theorem kfold_all (f : ByteArray) : kfold f 8 = kindOf f := by
  have e : ∀ n : Int, eqS (wdS n) f = true ↔ f = wdS n := fun n => eqS_iff.trans eq_comm
  have k7 : kndB ((7 : Nat) : Int) = true := by decide
  have k6 : kndB ((6 : Nat) : Int) = true := by decide
  have k5 : kndB ((5 : Nat) : Int) = true := by decide
  have k4 : kndB ((4 : Nat) : Int) = true := by decide
  have k3 : kndB ((3 : Nat) : Int) = true := by decide
  have k2 : kndB ((2 : Nat) : Int) = true := by decide
  have k1 : kndB ((1 : Nat) : Int) = true := by decide
  have k0 : kndB ((0 : Nat) : Int) = false := by decide
  simp only [kfold, e, k7, k6, k5, k4, k3, k2, k1, k0, true_and, false_and, if_false, Bool.false_eq_true]
  rfl
theorem uses_nat {k : Nat} (h : kndB (k : Int) = true) : ∃ r, gv0.drop (k * 2) = .v (.string (wdS k)) :: .v (.string (usS k)) :: r := by
  have h1 := uses_at h
  rwa [Int.toNat_natCast] at h1
def prgK (s : ByteArray) (k : Nat) : PSt := useF ⟨cutR s, false, ActT.none (kindOf (cutW s))⟩ ((tb (usS (kindOf (cutW s)))).take k)
theorem prgK_zero (s : ByteArray) : prgK s 0 = ⟨cutR s, false, ActT.none (kindOf (cutW s))⟩ := rfl
theorem prgK_succ {s : ByteArray} {k : Nat} (h : k < (usS (kindOf (cutW s))).size) {c : UInt8} (hc : ((usS (kindOf (cutW s)))[k]?).getD 0 = c) : prgK s (k + 1) = useS (prgK s k) c.toNat := by
  unfold prgK useF tb
  rw [tk_succ h hc, List.foldl_append]; rfl
theorem prgK_all {s : ByteArray} {k : Nat} (h : ¬ k < (usS (kindOf (cutW s))).size) : prgK s k = prgQ s := by
  unfold prgK prgQ
  rw [List.take_of_length_le (by rw [tb_len]; omega)]
def PB (n : Nat) (p : PSt) : Prop := p.rest.size ≤ n ∧ p.act.name.size ≤ n ∧ p.act.text.size ≤ n
theorem PB.use {n : Nat} {p : PSt} (h : PB n p) (c : Nat) : PB n (useS p c) := by
  obtain ⟨h1, h2, h3⟩ := h
  have e1 := cut_size p.rest
  have e2 := unqS_size p.rest
  have e3 := cut_size (cutR p.rest)
  have e4 := cut_size (cutR (cutR p.rest))
  unfold useS PSt.num
  repeat' split
  all_goals (refine ⟨?_, ?_, ?_⟩ <;> (try simp only) <;> first | omega | exact Nat.zero_le _)
theorem PB.useF {n : Nat} {p : PSt} (h : PB n p) (l : List UInt8) : PB n (useF p l) := by
  unfold Go.Proofs.YtmepcmphcghbeaaDoor.useF
  induction l generalizing p with
  | nil => exact h
  | cons c l ih => exact ih (h.use c.toNat)
theorem prgK_bnd (s : ByteArray) (k : Nat) : PB s.size (prgK s k) := PB.useF ⟨(cut_size s).2, Nat.zero_le _, Nat.zero_le _⟩ _
theorem prgQ_bnd (s : ByteArray) : PB s.size (prgQ s) := PB.useF ⟨(cut_size s).2, Nat.zero_le _, Nat.zero_le _⟩ _
theorem prg_bad {s : ByteArray} (h : ¬ prgOk s) : prgA s = ActT.none 0 ∧ prgE s = 3 := by
  unfold prgA prgE
  exact ⟨@if_neg _ (Classical.propDecidable _) h _ _ _, @if_neg _ (Classical.propDecidable _) h _ _ _⟩
theorem prg_good {s : ByteArray} (h : prgOk s) : prgA s = (prgQ s).act ∧ prgE s = 0 := by
  unfold prgA prgE
  exact ⟨@if_pos _ (Classical.propDecidable _) h _ _ _, @if_pos _ (Classical.propDecidable _) h _ _ _⟩
theorem none_cells (k : Int) : (ActT.none k).cells = [.v (.int .i64 k), .v (.string ByteArray.empty), .v (.int .i64 0), .v (.int .i64 0), .v (.string ByteArray.empty), .v (.int .i64 0), .v (.int .i64 0), .v (.int .i64 0), .v (.int .i64 0)] := rfl
theorem TParse_pure (s : ByteArray) (hs : s.size ≤ 600000) : APure Tryd.prog 14 [.v (.string s)] (.tup [.agg (prgA s).cells, .v (.int .i64 (prgE s))]) := by
  refine APure.mkL (.cons (.v _) .nil) ((.tup (.cons (ActT.dataAgg _) (.cons (.v _) .nil)))) ?_
  refine ACalls_intro Tryd.func14 (by kernel_rfl) rfl (by rw [Tryd.ntmps14]; simp) (fun hm => ?_)
  simp only [Tryd.ntmps14, Tryd.results14, List.length_cons, List.length_nil, Nat.reduceAdd, Nat.reduceSub, List.replicate_succ, List.replicate_zero, List.cons_append, List.nil_append]
  refine AWp_seqK fun Y0 y0 => ?_
  refine AWp_region ?_
  refine aops_chunk 1 fun Q0 q0 => ?_
  simp only [↓bO, go_sem, seval, gl_uses, ev_glob, rC, ActT.cells, ActT.none, lineA]
  refine q0 _ ?_
  clear q0 Q0
  simp only [go_sem]
  simp only [↓bO, go_sem, seval, gl_uses, ev_glob, rC, ActT.cells, ActT.none, lineA]
  refine y0 _ ?_
  try clear y0 Y0
  refine AWp_seqK fun Y0 y0 => ?_
  refine AWp_region ?_
  iterate 4 (refine aops_chunk 1 fun Q0 q0 => ?_; simp only [↓bO, go_sem, seval, gl_uses, ev_glob, rC, ActT.cells, ActT.none, lineA]; refine q0 _ ?_; clear q0 Q0; simp only [go_sem])
  simp only [↓bO, go_sem, seval, gl_uses, ev_glob, rC, ActT.cells, ActT.none, lineA]
  refine y0 _ ?_
  try clear y0 Y0
  refine AWp_seqK fun Y0 y0 => ?_
  refine AWp_region ?_
  iterate 3 (refine aops_chunk 1 fun Q0 q0 => ?_; simp only [↓bO, go_sem, seval, gl_uses, ev_glob, rC, ActT.cells, ActT.none, lineA]; refine q0 _ ?_; clear q0 Q0; simp only [go_sem])
  refine aops_chunk 1 fun Q0 q0 => ?_
  simp only [↓bO, go_sem, seval, gl_uses, ev_glob, rC, ActT.cells, ActT.none, lineA]
  refine RCalls.at (k := 1) (word_c s false (ActT.none 0) (by omega)) ?_ (.v _) rfl (by first | omega | (simp only; omega)) ?_
  · exact ⟨.ptr rfl, trivial⟩
  simp only [putO, Nat.reduceEqDiff, ↓reduceIte]
  try simp only [bS, bA, thenQ, blockQ, noGotoQ]
  refine q0 _ ?_
  clear q0 Q0
  simp only [go_sem]
  simp only [↓bO, go_sem, seval, gl_uses, ev_glob, rC, ActT.cells, ActT.none, lineA]
  refine y0 _ ?_
  try clear y0 Y0
  refine AWp_seqK fun Y0 y0 => ?_
  refine AWp_seqK fun Y1 y1 => ?_
  refine AWp_region ?_
  simp only [↓bO, go_sem, seval, gl_uses, ev_glob, rC, ActT.cells, ActT.none, lineA]
  refine y1 _ ?_
  try clear y1 Y1
  refine AWp_block ?_
  refine AWp_loopM (σ := Nat) (mB 88 524341) (fun k => k ≤ 8) (fun k => [(19, .v (.int .i64 (k : Int)))]) (fun k => [(1, .cells 59 (rC ⟨cutR s, false, ActT.none (kfold (cutW s) k)⟩))]) (fun k => 8 - k) 0 (by omega) ?_ (fun k hk => ?_)
  ·
   try simp only [maskL, setsL, putsO, putO, mB, List.set_cons_zero, List.set_cons_succ, seval, kfold, Int.natCast_zero, none_cells, rC_mk]
   exact Weak.mk (by simp only [go_sem, Le.refl, Le.any, Le.slNil, Int.natCast_add, Int.cast_ofNat_Int, Int.natCast_one]) (fun _ _ h => h) rfl rfl
  simp only [maskL, setsL, putsO, putO, mB, List.set_cons_zero, List.set_cons_succ, seval]
  have hw0 : IntKind.i64.wrap ((k : Int) + 1) = ((k + 1 : Nat) : Int) := by (rw [wrap_in (by omega) (by omega)]; omega)
  refine AWp_seqK fun Y1 y1 => ?_
  refine AWp_region ?_
  simp only [↓bO, go_sem, seval, gl_uses, ev_glob, rC, ActT.cells, ActT.none, lineA, hw0]
  refine y1 _ ?_
  try clear y1 Y1
  refine AWp_seqK fun Y1 y1 => ?_
  refine AWp_cond rfl (fun hb20 => ?_) (fun hb20 => ?_)
  ·
   have hlt : k < 8 := (by have h9 := hb20; simp at h9; omega)
   have hl8 : ((k : Int) < 8) = True := eq_true (by omega)
   refine AWp_skip ?_
   try simp only [thenQ, blockQ, noGotoQ]
   refine y1 _ ?_
   try clear y1 Y1
   refine AWp_seqK fun Y1 y1 => ?_
   refine AWp_block ?_
   refine AWp_seqK fun Y2 y2 => ?_
   refine AWp_region ?_
   refine aops_chunk 1 fun Q0 q0 => ?_
   simp only [↓bO, go_sem, seval, gl_uses, ev_glob, rC, ActT.cells, ActT.none, lineA, hw0, hl8]
   refine q0 _ ?_
   clear q0 Q0
   simp only [go_sem]
   simp only [↓bO, go_sem, seval, gl_uses, ev_glob, rC, ActT.cells, ActT.none, lineA, hw0, hl8]
   refine y2 _ ?_
   try clear y2 Y2
   refine AWp_seqK fun Y2 y2 => ?_
   refine AWp_region ?_
   refine aops_chunk 1 fun Q0 q0 => ?_
   simp only [↓bO, go_sem, seval, gl_uses, ev_glob, rC, ActT.cells, ActT.none, lineA, hw0, hl8]
   refine q0 _ ?_
   clear q0 Q0
   simp only [go_sem]
   refine aops_chunk 1 fun Q0 q0 => ?_
   simp only [↓bO, go_sem, seval, gl_uses, ev_glob, rC, ActT.cells, ActT.none, lineA, hw0, hl8]
   refine APure.call (TKnown_pure k) ?_
   try simp only [bS, bA, thenQ, blockQ, noGotoQ]
   refine q0 _ ?_
   clear q0 Q0
   simp only [go_sem]
   refine aops_chunk 1 fun Q0 q0 => ?_
   simp only [↓bO, go_sem, seval, gl_uses, ev_glob, rC, ActT.cells, ActT.none, lineA, hw0, hl8]
   refine q0 _ ?_
   clear q0 Q0
   simp only [go_sem]
   refine aops_case 24 rfl (fun hc24 => ?_) (fun hc24 => ?_)
   ·
    simp only [List.set_cons_zero, List.set_cons_succ]
    have hkn : kndB (k : Int) = true := (by have h9 := hc24; simpa using h9)
    obtain ⟨r, hgk⟩ := uses_nat hkn
    iterate 6 (refine aops_chunk 1 fun Q0 q0 => ?_; simp only [↓bO, go_sem, seval, gl_uses, ev_glob, rC, ActT.cells, ActT.none, lineA, hw0, hl8, hgk]; refine q0 _ ?_; clear q0 Q0; simp only [go_sem])
    simp only [↓bO, go_sem, seval, gl_uses, ev_glob, rC, ActT.cells, ActT.none, lineA, hw0, hl8, hgk]
    refine y2 _ ?_
    try clear y2 Y2
    refine AWp_cond rfl (fun hb31 => ?_) (fun hb31 => ?_)
    ·
     have hkf := kfold_yes (f := cutW s) hkn hb31
     refine AWp_region ?_
     iterate 5 (refine aops_chunk 1 fun Q0 q0 => ?_; simp only [↓bO, go_sem, seval, gl_uses, ev_glob, rC, ActT.cells, ActT.none, lineA, hw0, hl8, hgk, hkf]; refine q0 _ ?_; clear q0 Q0; simp only [go_sem])
     simp only [↓bO, go_sem, seval, gl_uses, ev_glob, rC, ActT.cells, ActT.none, lineA, hw0, hl8, hgk, hkf]
     refine y1 _ ?_
     try clear y1 Y1
     refine AWp_region ?_
     refine aops_chunk 1 fun Q0 q0 => ?_
     simp only [↓bO, go_sem, seval, gl_uses, ev_glob, rC, ActT.cells, ActT.none, lineA, hw0, hl8, hgk, hkf]
     refine q0 _ ?_
     clear q0 Q0
     simp only [go_sem]
     simp only [↓bO, go_sem, seval, gl_uses, ev_glob, rC, ActT.cells, ActT.none, lineA, hw0, hl8, hgk, hkf]
     refine ⟨(k + 1), (by omega), (by omega), ?_⟩
     try simp only [maskL, setsL, putsO, putO, mB, List.set_cons_zero, List.set_cons_succ, seval, hw0, hl8, hgk, hkf]
     exact Weak.mk (by simp only [go_sem, Le.refl, Le.any, Le.slNil, Int.natCast_add, Int.cast_ofNat_Int, Int.natCast_one]) (fun _ _ h => h) rfl rfl
    ·
     have hkf : kfold (cutW s) (k + 1) = kfold (cutW s) k := by (first | exact hkf | exact kfold_no2 hb31)
     refine AWp_skip ?_
     try simp only [thenQ, blockQ, noGotoQ]
     refine y1 _ ?_
     try clear y1 Y1
     refine AWp_region ?_
     refine aops_chunk 1 fun Q0 q0 => ?_
     simp only [↓bO, go_sem, seval, gl_uses, ev_glob, rC, ActT.cells, ActT.none, lineA, hw0, hl8, hgk, hkf]
     refine q0 _ ?_
     clear q0 Q0
     simp only [go_sem]
     simp only [↓bO, go_sem, seval, gl_uses, ev_glob, rC, ActT.cells, ActT.none, lineA, hw0, hl8, hgk, hkf]
     refine ⟨(k + 1), (by omega), (by omega), ?_⟩
     try simp only [maskL, setsL, putsO, putO, mB, List.set_cons_zero, List.set_cons_succ, seval, hw0, hl8, hgk, hkf]
     exact Weak.mk (by simp only [go_sem, Le.refl, Le.any, Le.slNil, Int.natCast_add, Int.cast_ofNat_Int, Int.natCast_one]) (fun _ _ h => h) rfl rfl
   ·
    simp only [List.set_cons_zero, List.set_cons_succ]
    have hkn : kndB (k : Int) = false := (by have h9 := hc24; simpa using h9)
    have hkf := kfold_no1 (f := cutW s) hkn
    iterate 6 (refine aops_chunk 1 fun Q0 q0 => ?_; simp only [↓bO, go_sem, seval, gl_uses, ev_glob, rC, ActT.cells, ActT.none, lineA, hw0, hl8, hkf]; refine q0 _ ?_; clear q0 Q0; simp only [go_sem])
    simp only [↓bO, go_sem, seval, gl_uses, ev_glob, rC, ActT.cells, ActT.none, lineA, hw0, hl8, hkf]
    refine y2 _ ?_
    try clear y2 Y2
    refine AWp_cond (b := false) (by first | exact rfl | exact congrArg (fun b => AV.v (.bool b)) hb31) (fun h => (by cases h)) (fun _ => ?_)
    refine AWp_skip ?_
    try simp only [thenQ, blockQ, noGotoQ]
    refine y1 _ ?_
    try clear y1 Y1
    refine AWp_region ?_
    refine aops_chunk 1 fun Q0 q0 => ?_
    simp only [↓bO, go_sem, seval, gl_uses, ev_glob, rC, ActT.cells, ActT.none, lineA, hw0, hl8, hkf]
    refine q0 _ ?_
    clear q0 Q0
    simp only [go_sem]
    simp only [↓bO, go_sem, seval, gl_uses, ev_glob, rC, ActT.cells, ActT.none, lineA, hw0, hl8, hkf]
    refine ⟨(k + 1), (by omega), (by omega), ?_⟩
    try simp only [maskL, setsL, putsO, putO, mB, List.set_cons_zero, List.set_cons_succ, seval, hw0, hl8, hkf]
    exact Weak.mk (by simp only [go_sem, Le.refl, Le.any, Le.slNil, Int.natCast_add, Int.cast_ofNat_Int, Int.natCast_one]) (fun _ _ h => h) rfl rfl
  ·
   have hge : ¬ k < 8 := (by have h9 := hb20; simp at h9; omega)
   obtain rfl : k = 8 := by omega
   have hka := kfold_all (cutW s)
   refine AWp_exit ?_
   simp only [thenQ, blockQ, noGotoQ, bA, Nat.reduceEqDiff, ↓reduceIte]
   refine y0 _ ?_
   try clear y0 Y0
   refine AWp_seqK fun Y0 y0 => ?_
   refine AWp_seqK fun Y1 y1 => ?_
   refine AWp_region ?_
   iterate 5 (refine aops_chunk 1 fun Q0 q0 => ?_; simp only [↓bO, go_sem, seval, gl_uses, ev_glob, rC, ActT.cells, ActT.none, lineA, hka]; refine q0 _ ?_; clear q0 Q0; simp only [go_sem])
   refine aops_chunk 1 fun Q0 q0 => ?_
   simp only [↓bO, go_sem, seval, gl_uses, ev_glob, rC, ActT.cells, ActT.none, lineA, hka]
   refine APure.call (TKnown_pure (kindOf (cutW s))) ?_
   try simp only [bS, bA, thenQ, blockQ, noGotoQ]
   refine q0 _ ?_
   clear q0 Q0
   simp only [go_sem]
   simp only [↓bO, go_sem, seval, gl_uses, ev_glob, rC, ActT.cells, ActT.none, lineA, hka]
   refine y1 _ ?_
   try clear y1 Y1
   refine AWp_cond rfl (fun hb44 => ?_) (fun hb44 => ?_)
   ·
    have hkn : kndB (kindOf (cutW s)) = false := (by have h9 := hb44; simpa using h9)
    have hno := prg_bad (s := s) (fun h => by rw [h.1] at hkn; cases hkn)
    refine AWp_seqK fun Y1 y1 => ?_
    refine AWp_region ?_
    iterate 2 (refine aops_chunk 1 fun Q0 q0 => ?_; simp only [↓bO, go_sem, seval, gl_uses, ev_glob, rC, ActT.cells, ActT.none, lineA, hka]; refine q0 _ ?_; clear q0 Q0; simp only [go_sem])
    simp only [↓bO, go_sem, seval, gl_uses, ev_glob, rC, ActT.cells, ActT.none, lineA, hka]
    refine y1 _ ?_
    try clear y1 Y1
    refine AWp_ret ?_
    try simp only [thenQ, blockQ, noGotoQ, retQ, aRes, tupOf, bS, bA, aLoad, getO, pack, bL, Nat.reduceAdd, Nat.reduceLeDiff, Nat.reduceEqDiff, ↓reduceIte, ti30, gl_uses, ev_glob, rC, ActT.cells, ActT.none, lineA, hka]
    rw [hno.1, hno.2]
    exact Le.refl _
   ·
    have hkn : kndB (kindOf (cutW s)) = true := (by have h9 := hb44; simpa using h9)
    obtain ⟨r, hgk⟩ := uses_at hkn
    have hkk := kinds hkn
    have hkg : (0 ≤ kindOf (cutW s)) = True := eq_true (by omega)
    have hkl : (kindOf (cutW s) < 8) = True := eq_true (by omega)
    have hus := usS_size (kindOf (cutW s))
    have hpz := prgK_zero s
    refine AWp_skip ?_
    try simp only [thenQ, blockQ, noGotoQ]
    refine y0 _ ?_
    try clear y0 Y0
    refine AWp_seqK fun Y0 y0 => ?_
    refine AWp_seqK fun Y1 y1 => ?_
    refine AWp_region ?_
    iterate 8 (refine aops_chunk 1 fun Q0 q0 => ?_; simp only [↓bO, go_sem, seval, gl_uses, ev_glob, rC, ActT.cells, ActT.none, lineA, hka, hgk, hkg, hkl]; refine q0 _ ?_; clear q0 Q0; simp only [go_sem])
    simp only [↓bO, go_sem, seval, aRange, gl_uses, ev_glob, rC, ActT.cells, ActT.none, lineA, hka, hgk, hkg, hkl]
    refine y1 _ ?_
    try clear y1 Y1
    refine AWp_block ?_
    refine AWp_loopM (σ := Nat) (mB 88 18014398509482005) (fun k => k ≤ (usS (kindOf (cutW s))).size) (fun k => []) (fun k => [(1, .cells 59 (rC (prgK s k))), (2, .raw (.stringIter (usS (kindOf (cutW s))) k))]) (fun k => (usS (kindOf (cutW s))).size - k) 0 (by omega) ?_ (fun k hk => ?_)
    ·
     try simp only [maskL, setsL, putsO, putO, mB, List.set_cons_zero, List.set_cons_succ, seval, hpz, rC_mk, none_cells]
     exact Weak.mk (by simp only [go_sem, Le.refl, Le.any, Le.slNil, Int.natCast_add, Int.cast_ofNat_Int, Int.natCast_one]) (fun _ _ h => h) rfl rfl
    simp only [maskL, setsL, putsO, putO, mB, List.set_cons_zero, List.set_cons_succ, seval]
    have hpb := (prgK_bnd s k).1
    refine AWp_seqK fun Y1 y1 => ?_
    refine AWp_region ?_
    refine aops_chunk 1 fun Q0 q0 => ?_
    simp only [↓bO, go_sem, seval, aNext, aExtract_next, gl_uses, ev_glob, rC, ActT.cells, ActT.none, lineA, hka, hgk, hkg, hkl]
    refine q0 _ ?_
    clear q0 Q0
    simp only [go_sem]
    simp only [↓bO, go_sem, seval, aExtract_tup, gl_uses, ev_glob, rC, ActT.cells, ActT.none, lineA, hka, hgk, hkg, hkl]
    refine y1 _ ?_
    try clear y1 Y1
    refine AWp_seqK fun Y1 y1 => ?_
    refine AWp_cond rfl (fun hb56 => ?_) (fun hb56 => ?_)
    ·
     have hlt : k < (usS (kindOf (cutW s))).size := (by have h9 := hb56; simpa using h9)
     obtain ⟨c, hc⟩ : ∃ c, ((usS (kindOf (cutW s)))[k]?).getD 0 = c := ⟨_, rfl⟩
     have hda := asc_at (usS_asc (kindOf (cutW s))) hlt
     rw [hc] at hda
     have hnv : nextV (usS (kindOf (cutW s))) k = .tup [.v (.bool true), .v (.int .i64 (k : Int)), .v (.int .i32 (c.toNat : Int))] := by rw [nextV, if_pos hlt, hda]
     have hnp : nextP (usS (kindOf (cutW s))) k = k + 1 := by rw [nextP, if_pos hlt, hda]
     have hbk := prgK_succ (s := s) hlt hc
     refine AWp_skip ?_
     try simp only [thenQ, blockQ, noGotoQ]
     refine y1 _ ?_
     try clear y1 Y1
     refine AWp_block ?_
     refine AWp_seqK fun Y1 y1 => ?_
     refine AWp_region ?_
     refine aops_chunk 1 fun Q0 q0 => ?_
     simp only [↓bO, go_sem, seval, aExtract_tup, gl_uses, ev_glob, rC, ActT.cells, ActT.none, lineA, hka, hgk, hkg, hkl, hnv, hnp, hbk]
     refine q0 _ ?_
     clear q0 Q0
     simp only [go_sem]
     simp only [↓bO, go_sem, seval, gl_uses, ev_glob, rC, ActT.cells, ActT.none, lineA, hka, hgk, hkg, hkl, hnv, hnp, hbk]
     refine y1 _ ?_
     try clear y1 Y1
     refine AWp_region ?_
     iterate 2 (refine aops_chunk 1 fun Q0 q0 => ?_; simp only [↓bO, go_sem, seval, gl_uses, ev_glob, rC, ActT.cells, ActT.none, lineA, hka, hgk, hkg, hkl, hnv, hnp, hbk]; refine q0 _ ?_; clear q0 Q0; simp only [go_sem])
     simp only [↓bO, go_sem, seval, gl_uses, ev_glob, rC, ActT.cells, ActT.none, lineA, hka, hgk, hkg, hkl, hnv, hnp, hbk]
     refine RCalls.at (k := 1) (use_c (prgK s k) c (by omega)) ?_ (.tup .nil) rfl (by first | omega | (simp only; omega)) ?_
     · exact ⟨.ptr rfl, .v _, trivial⟩
     simp only [putO, Nat.reduceEqDiff, ↓reduceIte]
     try simp only [bS, bA, thenQ, blockQ, noGotoQ]
     refine ⟨(k + 1), (by omega), (by omega), ?_⟩
     try simp only [maskL, setsL, putsO, putO, mB, List.set_cons_zero, List.set_cons_succ, seval, hka, hgk, hkg, hkl, hnv, hnp, hbk]
     exact Weak.mk (by simp only [go_sem, Le.refl, Le.any, Le.slNil, Int.natCast_add, Int.cast_ofNat_Int, Int.natCast_one]) (fun _ _ h => h) rfl rfl
    ·
     have hge : ¬ k < (usS (kindOf (cutW s))).size := (by have h9 := hb56; simpa using h9)
     have hba := prgK_all (s := s) hge
     have hqb := prgQ_bnd s
     have hqf := prgQ_fits s
     refine AWp_exit ?_
     simp only [thenQ, blockQ, noGotoQ, bA, Nat.reduceEqDiff, ↓reduceIte]
     refine y0 _ ?_
     try clear y0 Y0
     refine AWp_seqK fun Y0 y0 => ?_
     refine AWp_seqK fun Y1 y1 => ?_
     refine AWp_region ?_
     iterate 4 (refine aops_chunk 1 fun Q0 q0 => ?_; simp only [↓bO, go_sem, seval, gl_uses, ev_glob, rC, ActT.cells, ActT.none, lineA, hka, hgk, hkg, hkl, hba]; refine q0 _ ?_; clear q0 Q0; simp only [go_sem])
     refine aops_chunk 1 fun Q0 q0 => ?_
     simp only [↓bO, go_sem, seval, gl_uses, ev_glob, rC, ActT.cells, ActT.none, lineA, hka, hgk, hkg, hkl, hba]
     refine APure.call (TLine_pure (prgQ s).act hqf (by have := hqb.2.1; omega) (by have := hqb.2.2; omega)) ?_
     try simp only [bS, bA, thenQ, blockQ, noGotoQ]
     refine q0 _ ?_
     clear q0 Q0
     simp only [go_sem]
     refine aops_chunk 1 fun Q0 q0 => ?_
     simp only [↓bO, go_sem, seval, gl_uses, ev_glob, rC, ActT.cells, ActT.none, lineA, hka, hgk, hkg, hkl, hba]
     iterate 2 (refine q0 _ ?_; clear q0 Q0; simp only [go_sem]; refine aops_chunk 1 fun Q0 q0 => ?_; simp only [↓bO, go_sem, seval, aExtract_tup, gl_uses, ev_glob, rC, ActT.cells, ActT.none, lineA, hka, hgk, hkg, hkl, hba])
     refine q0 _ ?_
     clear q0 Q0
     simp only [go_sem]
     refine aops_chunk 1 fun Q0 q0 => ?_
     simp only [↓bO, go_sem, seval, gl_uses, ev_glob, rC, ActT.cells, ActT.none, lineA, hka, hgk, hkg, hkl, hba]
     refine q0 _ ?_
     clear q0 Q0
     simp only [go_sem]
     simp only [↓bO, go_sem, seval, gl_uses, ev_glob, rC, ActT.cells, ActT.none, lineA, hka, hgk, hkg, hkl, hba]
     refine y1 _ ?_
     try clear y1 Y1
     refine AWp_seqK fun Y1 y1 => ?_
     refine AWp_region ?_
     iterate 6 (refine aops_chunk 1 fun Q0 q0 => ?_; simp only [↓bO, go_sem, seval, gl_uses, ev_glob, rC, ActT.cells, ActT.none, lineA, hka, hgk, hkg, hkl, hba]; refine q0 _ ?_; clear q0 Q0; simp only [go_sem])
     refine aops_case 74 rfl (fun hc74 => ?_) (fun hc74 => ?_)
     ·
      simp only [List.set_cons_zero, List.set_cons_succ]
      have hbad : (prgQ s).bad = true := (by have h9 := hc74; simpa using h9)
      have hno := prg_bad (s := s) (fun h => by rw [h.2.1] at hbad; cases hbad)
      iterate 7 (refine aops_chunk 1 fun Q0 q0 => ?_; simp only [↓bO, go_sem, seval, gl_uses, ev_glob, rC, ActT.cells, ActT.none, lineA, hka, hgk, hkg, hkl, hba]; refine q0 _ ?_; clear q0 Q0; simp only [go_sem])
      simp only [↓bO, go_sem, seval, gl_uses, ev_glob, rC, ActT.cells, ActT.none, lineA, hka, hgk, hkg, hkl, hba]
      refine y1 _ ?_
      try clear y1 Y1
      refine AWp_cond (b := true) (by first | exact rfl | exact congrArg (fun b => AV.v (.bool b)) hb82) (fun _ => ?_) (fun h => (by cases h))
      refine AWp_seqK fun Y1 y1 => ?_
      refine AWp_region ?_
      iterate 2 (refine aops_chunk 1 fun Q0 q0 => ?_; simp only [↓bO, go_sem, seval, gl_uses, ev_glob, rC, ActT.cells, ActT.none, lineA, hka, hgk, hkg, hkl, hba]; refine q0 _ ?_; clear q0 Q0; simp only [go_sem])
      simp only [↓bO, go_sem, seval, gl_uses, ev_glob, rC, ActT.cells, ActT.none, lineA, hka, hgk, hkg, hkl, hba]
      refine y1 _ ?_
      try clear y1 Y1
      refine AWp_ret ?_
      try simp only [thenQ, blockQ, noGotoQ, retQ, aRes, tupOf, bS, bA, aLoad, getO, pack, bL, Nat.reduceAdd, Nat.reduceLeDiff, Nat.reduceEqDiff, ↓reduceIte, ti30, gl_uses, ev_glob, rC, ActT.cells, ActT.none, lineA, hka, hgk, hkg, hkl, hba]
      rw [hno.1, hno.2]
      exact Le.refl _
     ·
      simp only [List.set_cons_zero, List.set_cons_succ]
      have hbad : (prgQ s).bad = false := (by have h9 := hc74; simpa using h9)
      iterate 4 (refine aops_chunk 1 fun Q0 q0 => ?_; simp only [↓bO, go_sem, seval, gl_uses, ev_glob, rC, ActT.cells, ActT.none, lineA, hka, hgk, hkg, hkl, hba]; refine q0 _ ?_; clear q0 Q0; simp only [go_sem])
      refine aops_case 78 rfl (fun hc78 => ?_) (fun hc78 => ?_)
      ·
       simp only [List.set_cons_zero, List.set_cons_succ]
       have hno := prg_bad (s := s) (fun h => by (have h9 := hc78; rw [h.2.2.1] at h9; simp at h9))
       iterate 3 (refine aops_chunk 1 fun Q0 q0 => ?_; simp only [↓bO, go_sem, seval, gl_uses, ev_glob, rC, ActT.cells, ActT.none, lineA, hka, hgk, hkg, hkl, hba]; refine q0 _ ?_; clear q0 Q0; simp only [go_sem])
       simp only [↓bO, go_sem, seval, gl_uses, ev_glob, rC, ActT.cells, ActT.none, lineA, hka, hgk, hkg, hkl, hba]
       refine y1 _ ?_
       try clear y1 Y1
       refine AWp_cond (b := true) (by first | exact rfl | exact congrArg (fun b => AV.v (.bool b)) hb82) (fun _ => ?_) (fun h => (by cases h))
       refine AWp_seqK fun Y1 y1 => ?_
       refine AWp_region ?_
       iterate 2 (refine aops_chunk 1 fun Q0 q0 => ?_; simp only [↓bO, go_sem, seval, gl_uses, ev_glob, rC, ActT.cells, ActT.none, lineA, hka, hgk, hkg, hkl, hba]; refine q0 _ ?_; clear q0 Q0; simp only [go_sem])
       simp only [↓bO, go_sem, seval, gl_uses, ev_glob, rC, ActT.cells, ActT.none, lineA, hka, hgk, hkg, hkl, hba]
       refine y1 _ ?_
       try clear y1 Y1
       refine AWp_ret ?_
       try simp only [thenQ, blockQ, noGotoQ, retQ, aRes, tupOf, bS, bA, aLoad, getO, pack, bL, Nat.reduceAdd, Nat.reduceLeDiff, Nat.reduceEqDiff, ↓reduceIte, ti30, gl_uses, ev_glob, rC, ActT.cells, ActT.none, lineA, hka, hgk, hkg, hkl, hba]
       rw [hno.1, hno.2]
       exact Le.refl _
      ·
       simp only [List.set_cons_zero, List.set_cons_succ]
       have herr : (prgQ s).act.err = 0 := (by have h9 := hc78; simpa using h9)
       iterate 3 (refine aops_chunk 1 fun Q0 q0 => ?_; simp only [↓bO, go_sem, seval, gl_uses, ev_glob, rC, ActT.cells, ActT.none, lineA, hka, hgk, hkg, hkl, hba]; refine q0 _ ?_; clear q0 Q0; simp only [go_sem])
       simp only [↓bO, go_sem, seval, gl_uses, ev_glob, rC, ActT.cells, ActT.none, lineA, hka, hgk, hkg, hkl, hba]
       refine y1 _ ?_
       try clear y1 Y1
       refine AWp_cond rfl (fun hb82 => ?_) (fun hb82 => ?_)
       ·
        have hno := prg_bad (s := s) (fun h => by (have h9 := hb82; rw [h.2.2.2] at h9; simp at h9))
        refine AWp_seqK fun Y1 y1 => ?_
        refine AWp_region ?_
        iterate 2 (refine aops_chunk 1 fun Q0 q0 => ?_; simp only [↓bO, go_sem, seval, gl_uses, ev_glob, rC, ActT.cells, ActT.none, lineA, hka, hgk, hkg, hkl, hba]; refine q0 _ ?_; clear q0 Q0; simp only [go_sem])
        simp only [↓bO, go_sem, seval, gl_uses, ev_glob, rC, ActT.cells, ActT.none, lineA, hka, hgk, hkg, hkl, hba]
        refine y1 _ ?_
        try clear y1 Y1
        refine AWp_ret ?_
        try simp only [thenQ, blockQ, noGotoQ, retQ, aRes, tupOf, bS, bA, aLoad, getO, pack, bL, Nat.reduceAdd, Nat.reduceLeDiff, Nat.reduceEqDiff, ↓reduceIte, ti30, gl_uses, ev_glob, rC, ActT.cells, ActT.none, lineA, hka, hgk, hkg, hkl, hba]
        rw [hno.1, hno.2]
        exact Le.refl _
       ·
        have hln : (prgQ s).act.line = s := eqL_iff.1 (by have h9 := hb82; simpa only [Bool.not_eq_false'] using h9)
        have hok := prg_good (s := s) ⟨hkn, hbad, herr, hln⟩
        refine AWp_skip ?_
        try simp only [thenQ, blockQ, noGotoQ]
        refine y0 _ ?_
        try clear y0 Y0
        refine AWp_seqK fun Y0 y0 => ?_
        refine AWp_region ?_
        iterate 5 (refine aops_chunk 1 fun Q0 q0 => ?_; simp only [↓bO, go_sem, seval, gl_uses, ev_glob, rC, ActT.cells, ActT.none, lineA, hka, hgk, hkg, hkl, hba]; refine q0 _ ?_; clear q0 Q0; simp only [go_sem])
        simp only [↓bO, go_sem, seval, gl_uses, ev_glob, rC, ActT.cells, ActT.none, lineA, hka, hgk, hkg, hkl, hba]
        refine y0 _ ?_
        try clear y0 Y0
        refine AWp_ret ?_
        try simp only [thenQ, blockQ, noGotoQ, retQ, aRes, tupOf, bS, bA, aLoad, getO, pack, bL, Nat.reduceAdd, Nat.reduceLeDiff, Nat.reduceEqDiff, ↓reduceIte, ti30, gl_uses, ev_glob, rC, ActT.cells, ActT.none, lineA, hka, hgk, hkg, hkl, hba]
        rw [hok.1, hok.2]
        exact Le.refl _
def docW0 (s : ByteArray) : List (List UInt8) := if kindOf (cutW s) = 0 ∨ kindOf (cutW s) = 7 then [] else wordsL (mOf (kindOf (cutW s))) (tb s)
def docG0 (s : ByteArray) : Bool := if kindOf (cutW s) = 0 then false else docG1 s (kindOf (cutW s)) (docW s (kindOf (cutW s)))
theorem lenB (l : List (List UInt8)) (n : Nat) : decide (l.length = n) = ((l.length : Int) == (n : Int)) := by
  rw [Bool.eq_iff_iff, decide_eq_true_eq, beq_iff_eq]; omega
theorem head_word (s : ByteArray) : (List.map wC (wordsL 1 (tb s))).getD 0 [] = [.v (.string (cutW s))] := by
  have h := wordsL_head 0 (tb s)
  cases hw : wordsL 1 (tb s) with
  | nil => exact absurd hw (wordsL_ne _ _)
  | cons x r =>
    rw [hw] at h
    have h : x = _ := h
    rw [h]; rfl
theorem head_pos (s : ByteArray) : ((0 : Int) < ((wordsL 1 (tb s)).length : Int)) = True := by
  have := List.length_pos_iff.2 (wordsL_ne 1 (tb s))
  exact eq_true (by omega)
theorem wC_at {w : List (List UInt8)} {i : Nat} (h : i < w.length) : (w.map wC).getD i [] = [.v (.string (wAt w i))] := by
  unfold wAt
  rw [List.getD_eq_getElem?_getD, List.getElem?_map, List.getD_eq_getElem?_getD, List.getElem?_eq_getElem h]; rfl
theorem wordsL_sz : ∀ (m : Nat) (l : List UInt8), ∀ x ∈ wordsL m l, x.length ≤ l.length
  | 0, l, x, hx => by simp [wordsL] at hx; rw [hx]; exact Nat.le_refl _
  | m + 1, l, x, hx => by
    rcases cut1_or 32 l with h | ⟨y, r, rfl, h⟩
    · rw [wordsL_no h] at hx
      have hx : x = l := by simpa using hx
      rw [hx]; exact Nat.le_refl _
    · rw [wordsL_at h] at hx
      rcases List.mem_cons.1 hx with rfl | hx
      · simp only [List.length_append, List.length_cons]; omega
      · have := wordsL_sz m r x hx
        simp only [List.length_append, List.length_cons]; omega
theorem docW_sz (s : ByteArray) (k : Int) (i : Nat) : (wAt (docW s k) i).size ≤ s.size := by
  unfold wAt
  rw [ofL_size, List.getD_eq_getElem?_getD]
  cases h : (docW s k)[i]? with
  | none => simp
  | some x =>
    have hm := List.mem_of_getElem? h
    unfold docW at hm
    split at hm
    · cases hm
    · have := wordsL_sz _ _ x hm
      rw [tb_len] at this
      simpa using this
theorem wrap_I64 (n : Int) : I64 (IntKind.i64.wrap n) := by
  unfold I64
  rw [IntKind.wrap_i64]
  constructor <;> omega
theorem nuR_I64 (l : List UInt8) : I64 (nuR l).1 := by
  unfold nuR
  split
  · exact .zero
  · split
    · exact .zero
    · unfold nuV
      split
      · exact wrap_I64 _
      · exact wrap_I64 _
theorem docQ_fits (k : Int) (w : List (List UInt8)) : (docQ k w).fits := by
  refine ⟨?_, ?_, ?_, ?_, ?_, ?_⟩ <;> simp only [docQ] <;> split <;> first | exact nuR_I64 _ | exact .zero
theorem docQ_sz (s : ByteArray) (k : Int) : (docQ k (docW s k)).name.size ≤ s.size ∧ (docQ k (docW s k)).text.size ≤ s.size := by
  have h0 : ByteArray.empty.size = 0 := rfl
  simp only [docQ]
  constructor
  · split
    · exact docW_sz s k 1
    · omega
  · split
    · exact Nat.le_trans (unqS_size _) (docW_sz s k _)
    · omega
def nF (k : Int) : Nat := if k = 2 then 2 else if k = 5 then 2 else if k = 6 then 1 else 0
def nM (k : Int) : Nat := if k = 2 then 2 else if k = 5 then 1 else if k = 6 then 3 else 0
def nV (w : List (List UInt8)) (f i j : Nat) : Int := if j < i then (nuR (w.getD (f + j) [])).1 else 0
def nO (w : List (List UInt8)) (f : Nat) (g : Bool) : Nat → Bool
  | 0 => g
  | i + 1 => nO w f g i && (nuR (w.getD (f + i) [])).2
theorem nO_all {k : Int} (h : kndB k = true) (w : List (List UInt8)) : nO w (nF k) (docG2 k w) (nM k) = (docG2 k w && docG3 k w) := by
  rcases kinds h with rfl | rfl | rfl | rfl | rfl | rfl | rfl
  · show docG2 1 w = (docG2 1 w && true); rw [Bool.and_true]
  · show (docG2 2 w && _ && _) = (docG2 2 w && (_ && _)); rw [Bool.and_assoc]; rfl
  · show docG2 3 w = (docG2 3 w && true); rw [Bool.and_true]
  · show docG2 4 w = (docG2 4 w && true); rw [Bool.and_true]
  · rfl
  · show (docG2 6 w && _ && _ && _) = (docG2 6 w && (_ && _ && _)); rw [Bool.and_assoc, Bool.and_assoc, Bool.and_assoc]; rfl
  · show docG2 7 w = (docG2 7 w && true); rw [Bool.and_true]
theorem doc_bad {s : ByteArray} (h : ¬ docOk s) : docA s = ActT.none 0 ∧ docB s = false := by
  unfold docA docB
  exact ⟨@if_neg _ (Classical.propDecidable _) h _ _ _, @decide_eq_false _ (Classical.propDecidable _) h⟩
theorem doc_good {s : ByteArray} (h : docOk s) : docA s = docQ (docK s) (docW s (docK s)) ∧ docB s = true := by
  unfold docA docB
  exact ⟨@if_pos _ (Classical.propDecidable _) h _ _ _, @decide_eq_true _ (Classical.propDecidable _) h⟩
theorem wd_eq {s x : ByteArray} (h : (s.toList == x.toList) = true) : s = x := eqL_iff.1 h
theorem kindOf_none {f : ByteArray} (h1 : f ≠ wdS 1) (h2 : f ≠ wdS 2) (h3 : f ≠ wdS 3) (h4 : f ≠ wdS 4) (h5 : f ≠ wdS 5) (h6 : f ≠ wdS 6) (h7 : f ≠ wdS 7) : kindOf f = 0 := by
  unfold kindOf
  rw [if_neg h7, if_neg h6, if_neg h5, if_neg h4, if_neg h3, if_neg h2, if_neg h1]
theorem wd_ne {s x : ByteArray} (h : (s.toList == x.toList) = false) : s ≠ x := fun e => by rw [eqL_iff.2 e] at h; cases h
theorem docG0_no {s : ByteArray} (h : docG0 s = false) : ¬ docOk s := by
  rintro ⟨h1, h2, _⟩
  rw [docK_eq] at h1 h2
  unfold docG0 at h
  split at h
  · rename_i h0
    rw [h0] at h1; cases h1
  · rw [h2] at h; cases h
theorem kindOf_or (f : ByteArray) : kindOf f = 0 ∨ kndB (kindOf f) = true := by
  unfold kindOf
  repeat' split
  all_goals first | exact .inr (by decide) | exact .inl rfl
theorem docG0_yes {s : ByteArray} (h : docG0 s = true) : kndB (kindOf (cutW s)) = true ∧ docG1 s (kindOf (cutW s)) (docW s (kindOf (cutW s))) = true ∧ docW0 s = docW s (kindOf (cutW s)) := by
  unfold docG0 at h
  split at h
  · cases h
  · rename_i h0
    refine ⟨(kindOf_or _).resolve_left h0, h, ?_⟩
    unfold docW0 docW
    by_cases h7 : kindOf (cutW s) = 7
    · rw [if_pos (.inr h7), if_pos h7]
    · rw [if_neg (by omega), if_neg h7]
theorem docG1_len {s : ByteArray} {k : Int} {w : List (List UInt8)} (hk : kndB k = true) (h : docG1 s k w = true) (h7 : k ≠ 7) : w.length = lenOf k ∧ 2 ≤ w.length ∧ (k = 2 → w.length = 5) ∧ (k = 5 → w.length = 3) ∧ (k = 6 → w.length = 4) ∧ w.length ≤ 5 := by
  unfold docG1 at h
  rw [if_neg h7, decide_eq_true_eq] at h
  rw [h]
  refine ⟨rfl, ?_, ?_, ?_, ?_, ?_⟩
  · unfold lenOf; repeat' split
    all_goals omega
  · rintro rfl; rfl
  · rintro rfl; rfl
  · rintro rfl; rfl
  · unfold lenOf; repeat' split
    all_goals omega
theorem doc_iff {s : ByteArray} (hk : kndB (kindOf (cutW s)) = true) (hg : docG1 s (kindOf (cutW s)) (docW s (kindOf (cutW s))) = true) :
    docOk s ↔ (docG2 (kindOf (cutW s)) (docW s (kindOf (cutW s))) && docG3 (kindOf (cutW s)) (docW s (kindOf (cutW s)))) = true ∧ (docQ (kindOf (cutW s)) (docW s (kindOf (cutW s)))).err = 0 := by
  unfold docOk
  rw [docK_eq, Bool.and_eq_true]
  exact ⟨fun ⟨_, _, h2, h3, h4⟩ => ⟨⟨h2, h3⟩, h4⟩, fun ⟨⟨h2, h3⟩, h4⟩ => ⟨hk, hg, h2, h3, h4⟩⟩
theorem RParse28_pure (s : ByteArray) (hs : s.size ≤ 600000) : APure Tryd.prog 15 [.v (.string s)] (.tup [.agg (docA s).cells, .v (.bool (docB s))]) := by
  refine APure.mkL (.cons (.v _) .nil) ((.tup (.cons (ActT.dataAgg _) (.cons (.v _) .nil)))) ?_
  refine ACalls_intro Tryd.func15 (by kernel_rfl) rfl (by rw [Tryd.ntmps15]; simp) (fun hm => ?_)
  simp only [Tryd.ntmps15, Tryd.results15, List.length_cons, List.length_nil, Nat.reduceAdd, Nat.reduceSub, List.replicate_succ, List.replicate_zero, List.cons_append, List.nil_append]
  have hhw := head_word s
  have hhp := head_pos s
  refine AWp_seqK fun Y0 y0 => ?_
  refine AWp_region ?_
  refine aops_chunk 1 fun Q0 q0 => ?_
  simp only [↓bO, go_sem, seval, hhw, hhp, ActT.cells, ActT.none, unqA, lineA]
  refine q0 _ ?_
  clear q0 Q0
  simp only [go_sem]
  simp only [↓bO, go_sem, seval, hhw, hhp, ActT.cells, ActT.none, unqA, lineA]
  refine y0 _ ?_
  try clear y0 Y0
  refine AWp_seqK fun Y0 y0 => ?_
  refine AWp_region ?_
  iterate 2 (refine aops_chunk 1 fun Q0 q0 => ?_; simp only [↓bO, go_sem, seval, hhw, hhp, ActT.cells, ActT.none, unqA, lineA]; refine q0 _ ?_; clear q0 Q0; simp only [go_sem])
  simp only [↓bO, go_sem, seval, hhw, hhp, ActT.cells, ActT.none, unqA, lineA]
  refine y0 _ ?_
  try clear y0 Y0
  refine AWp_seqK fun Y0 y0 => ?_
  refine AWp_region ?_
  iterate 2 (refine aops_chunk 1 fun Q0 q0 => ?_; simp only [↓bO, go_sem, seval, hhw, hhp, ActT.cells, ActT.none, unqA, lineA]; refine q0 _ ?_; clear q0 Q0; simp only [go_sem])
  iterate 2 (simp only [↓bO, go_sem, seval, hhw, hhp, ActT.cells, ActT.none, unqA, lineA]; refine y0 _ ?_; (try clear y0 Y0); refine AWp_seqK fun Y0 y0 => ?_; refine AWp_region ?_)
  refine aops_chunk 1 fun Q0 q0 => ?_
  simp only [↓bO, go_sem, seval, hhw, hhp, ActT.cells, ActT.none, unqA, lineA]
  refine q0 _ ?_
  clear q0 Q0
  simp only [go_sem]
  refine aops_chunk 1 fun Q0 q0 => ?_
  simp only [↓bO, go_sem, seval, hhw, hhp, ActT.cells, ActT.none, unqA, lineA]
  refine APure.call (by have h9 := RWd_pure s 1 (by omega) (by omega); exact h9) ?_
  try simp only [bS, bA, thenQ, blockQ, noGotoQ]
  refine q0 _ ?_
  clear q0 Q0
  simp only [go_sem]
  simp only [↓bO, go_sem, seval, hhw, hhp, ActT.cells, ActT.none, unqA, lineA]
  refine y0 _ ?_
  try clear y0 Y0
  refine AWp_seqK fun Y0 y0 => ?_
  refine AWp_region ?_
  refine aops_chunk 1 fun Q0 q0 => ?_
  simp only [↓bO, go_sem, seval, ↓bs0_1, ↓bs0_2, ↓bs0_3, ↓bs0_4, ↓bs0_5, ↓bs0_6, ↓bs0_7, ↓bs0_8, ↓bs0_9, ↓bs0_10, ↓bs0_11, ↓bs0_12, hhw, hhp, ActT.cells, ActT.none, unqA, lineA]
  refine q0 _ ?_
  clear q0 Q0
  simp only [go_sem]
  simp only [↓bO, go_sem, seval, hhw, hhp, ActT.cells, ActT.none, unqA, lineA]
  refine y0 _ ?_
  try clear y0 Y0
  refine AWp_joinM (mB 172 372) ([(6, .v (.bool (docG0 s))), (8, .sl 1 ((docW0 s).map wC))]) ([(2, .cells 30 (ActT.none (kindOf (cutW s))).cells)]) ?_ ?_
  ·
   refine AWp_seqK fun Y0 y0 => ?_
   refine AWp_region ?_
   iterate 2 (refine aops_chunk 1 fun Q0 q0 => ?_; simp only [↓bO, go_sem, seval, hhw, hhp, ActT.cells, ActT.none, unqA, lineA]; refine q0 _ ?_; clear q0 Q0; simp only [go_sem])
   simp only [↓bO, go_sem, seval, hhw, hhp, ActT.cells, ActT.none, unqA, lineA]
   refine y0 _ ?_
   try clear y0 Y0
   refine AWp_block ?_
   refine AWp_seqK fun Y0 y0 => ?_
   refine AWp_region ?_
   refine aops_chunk 1 fun Q0 q0 => ?_
   simp only [↓bO, go_sem, seval, hhw, hhp, ActT.cells, ActT.none, unqA, lineA]
   refine q0 _ ?_
   clear q0 Q0
   simp only [go_sem]
   simp only [↓bO, go_sem, seval, hhw, hhp, ActT.cells, ActT.none, unqA, lineA]
   refine y0 _ ?_
   try clear y0 Y0
   refine AWp_cond rfl (fun hb27 => ?_) (fun hb27 => ?_)
   ·
    have hF : cutW s = wdS 1 := wd_eq hb27
    have hK : kindOf (cutW s) = 1 := by (rw [hF]; decide)
    have hW : docW0 s = wordsL 2 (tb s) := by (unfold docW0; rw [hK]; rfl)
    have hG : docG0 s = (((wordsL 2 (tb s)).length : Int) == 3) := by (unfold docG0 docG1 docW; rw [hK]; exact lenB _ 3)
    have hN : (ActT.none (kindOf (cutW s))).cells = (ActT.none 1).cells := by rw [hK]
    refine AWp_seqK fun Y0 y0 => ?_
    refine AWp_region ?_
    refine aops_chunk 1 fun Q0 q0 => ?_
    simp only [↓bO, go_sem, seval, hhw, hhp, ActT.cells, ActT.none, unqA, lineA]
    refine q0 _ ?_
    clear q0 Q0
    simp only [go_sem]
    simp only [↓bO, go_sem, seval, hhw, hhp, ActT.cells, ActT.none, unqA, lineA]
    refine y0 _ ?_
    try clear y0 Y0
    refine AWp_seqK fun Y0 y0 => ?_
    refine AWp_region ?_
    refine aops_chunk 1 fun Q0 q0 => ?_
    simp only [↓bO, go_sem, seval, hhw, hhp, ActT.cells, ActT.none, unqA, lineA]
    refine q0 _ ?_
    clear q0 Q0
    simp only [go_sem]
    refine aops_chunk 1 fun Q0 q0 => ?_
    simp only [↓bO, go_sem, seval, hhw, hhp, ActT.cells, ActT.none, unqA, lineA]
    refine APure.call (by have h9 := RWd_pure s 2 (by omega) (by omega); exact h9) ?_
    try simp only [bS, bA, thenQ, blockQ, noGotoQ]
    refine q0 _ ?_
    clear q0 Q0
    simp only [go_sem]
    simp only [↓bO, go_sem, seval, hhw, hhp, ActT.cells, ActT.none, unqA, lineA]
    refine y0 _ ?_
    try clear y0 Y0
    refine AWp_region ?_
    iterate 3 (refine aops_chunk 1 fun Q0 q0 => ?_; simp only [↓bO, go_sem, seval, hhw, hhp, ActT.cells, ActT.none, unqA, lineA]; refine q0 _ ?_; clear q0 Q0; simp only [go_sem])
    simp only [↓bO, go_sem, seval, hhw, hhp, ActT.cells, ActT.none, unqA, lineA]
    try simp only [maskL, setsL, putsO, putO, mB, List.set_cons_zero, List.set_cons_succ, seval]
    simp only [hG, hW, hK, List.map_nil]
    exact Weak.mk (by simp only [go_sem, Le.refl, Le.any, Le.osl]) (fun _ _ h => h) rfl rfl
   ·
    have hF1 : cutW s ≠ wdS 1 := wd_ne hb27
    refine AWp_seqK fun Y0 y0 => ?_
    refine AWp_region ?_
    refine aops_chunk 1 fun Q0 q0 => ?_
    simp only [↓bO, go_sem, seval, hhw, hhp, ActT.cells, ActT.none, unqA, lineA]
    refine q0 _ ?_
    clear q0 Q0
    simp only [go_sem]
    simp only [↓bO, go_sem, seval, hhw, hhp, ActT.cells, ActT.none, unqA, lineA]
    refine y0 _ ?_
    try clear y0 Y0
    refine AWp_cond rfl (fun hb35 => ?_) (fun hb35 => ?_)
    ·
     have hF : cutW s = wdS 2 := wd_eq hb35
     have hK : kindOf (cutW s) = 2 := by (rw [hF]; decide)
     have hW : docW0 s = wordsL 4 (tb s) := by (unfold docW0; rw [hK]; rfl)
     have hG : docG0 s = (((wordsL 4 (tb s)).length : Int) == 5) := by (unfold docG0 docG1 docW; rw [hK]; exact lenB _ 5)
     have hN : (ActT.none (kindOf (cutW s))).cells = (ActT.none 2).cells := by rw [hK]
     refine AWp_seqK fun Y0 y0 => ?_
     refine AWp_region ?_
     refine aops_chunk 1 fun Q0 q0 => ?_
     simp only [↓bO, go_sem, seval, hhw, hhp, ActT.cells, ActT.none, unqA, lineA]
     refine q0 _ ?_
     clear q0 Q0
     simp only [go_sem]
     simp only [↓bO, go_sem, seval, hhw, hhp, ActT.cells, ActT.none, unqA, lineA]
     refine y0 _ ?_
     try clear y0 Y0
     refine AWp_seqK fun Y0 y0 => ?_
     refine AWp_region ?_
     refine aops_chunk 1 fun Q0 q0 => ?_
     simp only [↓bO, go_sem, seval, hhw, hhp, ActT.cells, ActT.none, unqA, lineA]
     refine q0 _ ?_
     clear q0 Q0
     simp only [go_sem]
     refine aops_chunk 1 fun Q0 q0 => ?_
     simp only [↓bO, go_sem, seval, hhw, hhp, ActT.cells, ActT.none, unqA, lineA]
     refine APure.call (by have h9 := RWd_pure s 4 (by omega) (by omega); exact h9) ?_
     try simp only [bS, bA, thenQ, blockQ, noGotoQ]
     refine q0 _ ?_
     clear q0 Q0
     simp only [go_sem]
     simp only [↓bO, go_sem, seval, hhw, hhp, ActT.cells, ActT.none, unqA, lineA]
     refine y0 _ ?_
     try clear y0 Y0
     refine AWp_region ?_
     iterate 3 (refine aops_chunk 1 fun Q0 q0 => ?_; simp only [↓bO, go_sem, seval, hhw, hhp, ActT.cells, ActT.none, unqA, lineA]; refine q0 _ ?_; clear q0 Q0; simp only [go_sem])
     simp only [↓bO, go_sem, seval, hhw, hhp, ActT.cells, ActT.none, unqA, lineA]
     try simp only [maskL, setsL, putsO, putO, mB, List.set_cons_zero, List.set_cons_succ, seval]
     simp only [hG, hW, hK, List.map_nil]
     exact Weak.mk (by simp only [go_sem, Le.refl, Le.any, Le.osl]) (fun _ _ h => h) rfl rfl
    ·
     have hF2 : cutW s ≠ wdS 2 := wd_ne hb35
     refine AWp_seqK fun Y0 y0 => ?_
     refine AWp_seqK fun Y1 y1 => ?_
     refine AWp_region ?_
     refine aops_chunk 1 fun Q0 q0 => ?_
     simp only [↓bO, go_sem, seval, hhw, hhp, ActT.cells, ActT.none, unqA, lineA]
     refine q0 _ ?_
     clear q0 Q0
     simp only [go_sem]
     simp only [↓bO, go_sem, seval, hhw, hhp, ActT.cells, ActT.none, unqA, lineA]
     refine y1 _ ?_
     try clear y1 Y1
     refine AWp_cond rfl (fun hb43 => ?_) (fun hb43 => ?_)
     ·
      have hF34 : cutW s = wdS 3 ∨ cutW s = wdS 4 := by (first | exact .inl (wd_eq hb43) | exact .inr (wd_eq hb43))
      refine AWp_skip ?_
      try simp only [thenQ, blockQ, noGotoQ]
      refine y0 _ ?_
      try clear y0 Y0
      refine AWp_cond (b := true) (by first | exact rfl | exact congrArg (fun b => AV.v (.bool b)) hb43) (fun _ => ?_) (fun h => (by cases h))
      refine AWp_seqK fun Y0 y0 => ?_
      refine AWp_region ?_
      refine aops_chunk 1 fun Q0 q0 => ?_
      simp only [↓bO, go_sem, seval, hhw, hhp, ActT.cells, ActT.none, unqA, lineA]
      refine q0 _ ?_
      clear q0 Q0
      simp only [go_sem]
      simp only [↓bO, go_sem, seval, hhw, hhp, ActT.cells, ActT.none, unqA, lineA]
      refine y0 _ ?_
      try clear y0 Y0
      refine AWp_seqK fun Y0 y0 => ?_
      refine AWp_seqK fun Y1 y1 => ?_
      refine AWp_region ?_
      iterate 3 (refine aops_chunk 1 fun Q0 q0 => ?_; simp only [↓bO, go_sem, seval, hhw, hhp, ActT.cells, ActT.none, unqA, lineA]; refine q0 _ ?_; clear q0 Q0; simp only [go_sem])
      simp only [↓bO, go_sem, seval, hhw, hhp, ActT.cells, ActT.none, unqA, lineA]
      refine y1 _ ?_
      try clear y1 Y1
      refine AWp_cond rfl (fun hb50 => ?_) (fun hb50 => ?_)
      ·
       have hF : cutW s = wdS 4 := wd_eq hb50
       have hK : kindOf (cutW s) = 4 := by (rw [hF]; decide)
       have hW : docW0 s = wordsL 8 (tb s) := by (unfold docW0; rw [hK]; rfl)
       have hG : docG0 s = (((wordsL 8 (tb s)).length : Int) == 2) := by (unfold docG0 docG1 docW; rw [hK]; exact lenB _ 2)
       have hN : (ActT.none (kindOf (cutW s))).cells = (ActT.none 4).cells := by rw [hK]
       refine AWp_region ?_
       refine aops_chunk 1 fun Q0 q0 => ?_
       simp only [↓bO, go_sem, seval, hhw, hhp, ActT.cells, ActT.none, unqA, lineA]
       refine q0 _ ?_
       clear q0 Q0
       simp only [go_sem]
       simp only [↓bO, go_sem, seval, hhw, hhp, ActT.cells, ActT.none, unqA, lineA]
       refine y0 _ ?_
       try clear y0 Y0
       refine AWp_seqK fun Y0 y0 => ?_
       refine AWp_region ?_
       refine aops_chunk 1 fun Q0 q0 => ?_
       simp only [↓bO, go_sem, seval, hhw, hhp, ActT.cells, ActT.none, unqA, lineA]
       refine q0 _ ?_
       clear q0 Q0
       simp only [go_sem]
       refine aops_chunk 1 fun Q0 q0 => ?_
       simp only [↓bO, go_sem, seval, hhw, hhp, ActT.cells, ActT.none, unqA, lineA]
       refine APure.call (by have h9 := RWd_pure s 8 (by omega) (by omega); exact h9) ?_
       try simp only [bS, bA, thenQ, blockQ, noGotoQ]
       refine q0 _ ?_
       clear q0 Q0
       simp only [go_sem]
       simp only [↓bO, go_sem, seval, hhw, hhp, ActT.cells, ActT.none, unqA, lineA]
       refine y0 _ ?_
       try clear y0 Y0
       refine AWp_region ?_
       iterate 3 (refine aops_chunk 1 fun Q0 q0 => ?_; simp only [↓bO, go_sem, seval, hhw, hhp, ActT.cells, ActT.none, unqA, lineA]; refine q0 _ ?_; clear q0 Q0; simp only [go_sem])
       simp only [↓bO, go_sem, seval, hhw, hhp, ActT.cells, ActT.none, unqA, lineA]
       try simp only [maskL, setsL, putsO, putO, mB, List.set_cons_zero, List.set_cons_succ, seval]
       simp only [hG, hW, hK, List.map_nil]
       exact Weak.mk (by simp only [go_sem, Le.refl, Le.any, Le.osl]) (fun _ _ h => h) rfl rfl
      ·
       have hF : cutW s = wdS 3 := hF34.resolve_right (wd_ne hb50)
       have hK : kindOf (cutW s) = 3 := by (rw [hF]; decide)
       have hW : docW0 s = wordsL 8 (tb s) := by (unfold docW0; rw [hK]; rfl)
       have hG : docG0 s = (((wordsL 8 (tb s)).length : Int) == 2) := by (unfold docG0 docG1 docW; rw [hK]; exact lenB _ 2)
       have hN : (ActT.none (kindOf (cutW s))).cells = (ActT.none 3).cells := by rw [hK]
       refine AWp_skip ?_
       try simp only [thenQ, blockQ, noGotoQ]
       refine y0 _ ?_
       try clear y0 Y0
       refine AWp_seqK fun Y0 y0 => ?_
       refine AWp_region ?_
       refine aops_chunk 1 fun Q0 q0 => ?_
       simp only [↓bO, go_sem, seval, hhw, hhp, ActT.cells, ActT.none, unqA, lineA]
       refine q0 _ ?_
       clear q0 Q0
       simp only [go_sem]
       refine aops_chunk 1 fun Q0 q0 => ?_
       simp only [↓bO, go_sem, seval, hhw, hhp, ActT.cells, ActT.none, unqA, lineA]
       refine APure.call (by have h9 := RWd_pure s 8 (by omega) (by omega); exact h9) ?_
       try simp only [bS, bA, thenQ, blockQ, noGotoQ]
       refine q0 _ ?_
       clear q0 Q0
       simp only [go_sem]
       simp only [↓bO, go_sem, seval, hhw, hhp, ActT.cells, ActT.none, unqA, lineA]
       refine y0 _ ?_
       try clear y0 Y0
       refine AWp_region ?_
       iterate 3 (refine aops_chunk 1 fun Q0 q0 => ?_; simp only [↓bO, go_sem, seval, hhw, hhp, ActT.cells, ActT.none, unqA, lineA]; refine q0 _ ?_; clear q0 Q0; simp only [go_sem])
       simp only [↓bO, go_sem, seval, hhw, hhp, ActT.cells, ActT.none, unqA, lineA]
       try simp only [maskL, setsL, putsO, putO, mB, List.set_cons_zero, List.set_cons_succ, seval]
       simp only [hG, hW, hK, List.map_nil]
       exact Weak.mk (by simp only [go_sem, Le.refl, Le.any, Le.osl]) (fun _ _ h => h) rfl rfl
     ·
      first | have hF3 : cutW s ≠ wdS 3 := wd_ne hb43 | have hF4 : cutW s ≠ wdS 4 := wd_ne hb43
      refine AWp_region ?_
      refine aops_chunk 1 fun Q0 q0 => ?_
      simp only [↓bO, go_sem, seval, hhw, hhp, ActT.cells, ActT.none, unqA, lineA]
      refine q0 _ ?_
      clear q0 Q0
      simp only [go_sem]
      simp only [↓bO, go_sem, seval, hhw, hhp, ActT.cells, ActT.none, unqA, lineA]
      refine y0 _ ?_
      try clear y0 Y0
      refine AWp_cond rfl (fun hb43 => ?_) (fun hb43 => ?_)
      ·
       have hF34 : cutW s = wdS 3 ∨ cutW s = wdS 4 := by (first | exact .inl (wd_eq hb43) | exact .inr (wd_eq hb43))
       refine AWp_seqK fun Y0 y0 => ?_
       refine AWp_region ?_
       refine aops_chunk 1 fun Q0 q0 => ?_
       simp only [↓bO, go_sem, seval, hhw, hhp, ActT.cells, ActT.none, unqA, lineA]
       refine q0 _ ?_
       clear q0 Q0
       simp only [go_sem]
       simp only [↓bO, go_sem, seval, hhw, hhp, ActT.cells, ActT.none, unqA, lineA]
       refine y0 _ ?_
       try clear y0 Y0
       refine AWp_seqK fun Y0 y0 => ?_
       refine AWp_seqK fun Y1 y1 => ?_
       refine AWp_region ?_
       iterate 3 (refine aops_chunk 1 fun Q0 q0 => ?_; simp only [↓bO, go_sem, seval, hhw, hhp, ActT.cells, ActT.none, unqA, lineA]; refine q0 _ ?_; clear q0 Q0; simp only [go_sem])
       simp only [↓bO, go_sem, seval, hhw, hhp, ActT.cells, ActT.none, unqA, lineA]
       refine y1 _ ?_
       try clear y1 Y1
       refine AWp_cond rfl (fun hb50 => ?_) (fun hb50 => ?_)
       ·
        have hF : cutW s = wdS 4 := wd_eq hb50
        have hK : kindOf (cutW s) = 4 := by (rw [hF]; decide)
        have hW : docW0 s = wordsL 8 (tb s) := by (unfold docW0; rw [hK]; rfl)
        have hG : docG0 s = (((wordsL 8 (tb s)).length : Int) == 2) := by (unfold docG0 docG1 docW; rw [hK]; exact lenB _ 2)
        have hN : (ActT.none (kindOf (cutW s))).cells = (ActT.none 4).cells := by rw [hK]
        refine AWp_region ?_
        refine aops_chunk 1 fun Q0 q0 => ?_
        simp only [↓bO, go_sem, seval, hhw, hhp, ActT.cells, ActT.none, unqA, lineA]
        refine q0 _ ?_
        clear q0 Q0
        simp only [go_sem]
        simp only [↓bO, go_sem, seval, hhw, hhp, ActT.cells, ActT.none, unqA, lineA]
        refine y0 _ ?_
        try clear y0 Y0
        refine AWp_seqK fun Y0 y0 => ?_
        refine AWp_region ?_
        refine aops_chunk 1 fun Q0 q0 => ?_
        simp only [↓bO, go_sem, seval, hhw, hhp, ActT.cells, ActT.none, unqA, lineA]
        refine q0 _ ?_
        clear q0 Q0
        simp only [go_sem]
        refine aops_chunk 1 fun Q0 q0 => ?_
        simp only [↓bO, go_sem, seval, hhw, hhp, ActT.cells, ActT.none, unqA, lineA]
        refine APure.call (by have h9 := RWd_pure s 8 (by omega) (by omega); exact h9) ?_
        try simp only [bS, bA, thenQ, blockQ, noGotoQ]
        refine q0 _ ?_
        clear q0 Q0
        simp only [go_sem]
        simp only [↓bO, go_sem, seval, hhw, hhp, ActT.cells, ActT.none, unqA, lineA]
        refine y0 _ ?_
        try clear y0 Y0
        refine AWp_region ?_
        iterate 3 (refine aops_chunk 1 fun Q0 q0 => ?_; simp only [↓bO, go_sem, seval, hhw, hhp, ActT.cells, ActT.none, unqA, lineA]; refine q0 _ ?_; clear q0 Q0; simp only [go_sem])
        simp only [↓bO, go_sem, seval, hhw, hhp, ActT.cells, ActT.none, unqA, lineA]
        try simp only [maskL, setsL, putsO, putO, mB, List.set_cons_zero, List.set_cons_succ, seval]
        simp only [hG, hW, hK, List.map_nil]
        exact Weak.mk (by simp only [go_sem, Le.refl, Le.any, Le.osl]) (fun _ _ h => h) rfl rfl
       ·
        have hF : cutW s = wdS 3 := hF34.resolve_right (wd_ne hb50)
        have hK : kindOf (cutW s) = 3 := by (rw [hF]; decide)
        have hW : docW0 s = wordsL 8 (tb s) := by (unfold docW0; rw [hK]; rfl)
        have hG : docG0 s = (((wordsL 8 (tb s)).length : Int) == 2) := by (unfold docG0 docG1 docW; rw [hK]; exact lenB _ 2)
        have hN : (ActT.none (kindOf (cutW s))).cells = (ActT.none 3).cells := by rw [hK]
        refine AWp_skip ?_
        try simp only [thenQ, blockQ, noGotoQ]
        refine y0 _ ?_
        try clear y0 Y0
        refine AWp_seqK fun Y0 y0 => ?_
        refine AWp_region ?_
        refine aops_chunk 1 fun Q0 q0 => ?_
        simp only [↓bO, go_sem, seval, hhw, hhp, ActT.cells, ActT.none, unqA, lineA]
        refine q0 _ ?_
        clear q0 Q0
        simp only [go_sem]
        refine aops_chunk 1 fun Q0 q0 => ?_
        simp only [↓bO, go_sem, seval, hhw, hhp, ActT.cells, ActT.none, unqA, lineA]
        refine APure.call (by have h9 := RWd_pure s 8 (by omega) (by omega); exact h9) ?_
        try simp only [bS, bA, thenQ, blockQ, noGotoQ]
        refine q0 _ ?_
        clear q0 Q0
        simp only [go_sem]
        simp only [↓bO, go_sem, seval, hhw, hhp, ActT.cells, ActT.none, unqA, lineA]
        refine y0 _ ?_
        try clear y0 Y0
        refine AWp_region ?_
        iterate 3 (refine aops_chunk 1 fun Q0 q0 => ?_; simp only [↓bO, go_sem, seval, hhw, hhp, ActT.cells, ActT.none, unqA, lineA]; refine q0 _ ?_; clear q0 Q0; simp only [go_sem])
        simp only [↓bO, go_sem, seval, hhw, hhp, ActT.cells, ActT.none, unqA, lineA]
        try simp only [maskL, setsL, putsO, putO, mB, List.set_cons_zero, List.set_cons_succ, seval]
        simp only [hG, hW, hK, List.map_nil]
        exact Weak.mk (by simp only [go_sem, Le.refl, Le.any, Le.osl]) (fun _ _ h => h) rfl rfl
      ·
       first | have hF3 : cutW s ≠ wdS 3 := wd_ne hb43 | have hF4 : cutW s ≠ wdS 4 := wd_ne hb43
       refine AWp_seqK fun Y0 y0 => ?_
       refine AWp_region ?_
       refine aops_chunk 1 fun Q0 q0 => ?_
       simp only [↓bO, go_sem, seval, hhw, hhp, ActT.cells, ActT.none, unqA, lineA]
       refine q0 _ ?_
       clear q0 Q0
       simp only [go_sem]
       simp only [↓bO, go_sem, seval, hhw, hhp, ActT.cells, ActT.none, unqA, lineA]
       refine y0 _ ?_
       try clear y0 Y0
       refine AWp_cond rfl (fun hb57 => ?_) (fun hb57 => ?_)
       ·
        have hF : cutW s = wdS 5 := wd_eq hb57
        have hK : kindOf (cutW s) = 5 := by (rw [hF]; decide)
        have hW : docW0 s = wordsL 8 (tb s) := by (unfold docW0; rw [hK]; rfl)
        have hG : docG0 s = (((wordsL 8 (tb s)).length : Int) == 3) := by (unfold docG0 docG1 docW; rw [hK]; exact lenB _ 3)
        have hN : (ActT.none (kindOf (cutW s))).cells = (ActT.none 5).cells := by rw [hK]
        refine AWp_seqK fun Y0 y0 => ?_
        refine AWp_region ?_
        refine aops_chunk 1 fun Q0 q0 => ?_
        simp only [↓bO, go_sem, seval, hhw, hhp, ActT.cells, ActT.none, unqA, lineA]
        refine q0 _ ?_
        clear q0 Q0
        simp only [go_sem]
        simp only [↓bO, go_sem, seval, hhw, hhp, ActT.cells, ActT.none, unqA, lineA]
        refine y0 _ ?_
        try clear y0 Y0
        refine AWp_seqK fun Y0 y0 => ?_
        refine AWp_region ?_
        refine aops_chunk 1 fun Q0 q0 => ?_
        simp only [↓bO, go_sem, seval, hhw, hhp, ActT.cells, ActT.none, unqA, lineA]
        refine q0 _ ?_
        clear q0 Q0
        simp only [go_sem]
        refine aops_chunk 1 fun Q0 q0 => ?_
        simp only [↓bO, go_sem, seval, hhw, hhp, ActT.cells, ActT.none, unqA, lineA]
        refine APure.call (by have h9 := RWd_pure s 8 (by omega) (by omega); exact h9) ?_
        try simp only [bS, bA, thenQ, blockQ, noGotoQ]
        refine q0 _ ?_
        clear q0 Q0
        simp only [go_sem]
        simp only [↓bO, go_sem, seval, hhw, hhp, ActT.cells, ActT.none, unqA, lineA]
        refine y0 _ ?_
        try clear y0 Y0
        refine AWp_region ?_
        iterate 3 (refine aops_chunk 1 fun Q0 q0 => ?_; simp only [↓bO, go_sem, seval, hhw, hhp, ActT.cells, ActT.none, unqA, lineA]; refine q0 _ ?_; clear q0 Q0; simp only [go_sem])
        simp only [↓bO, go_sem, seval, hhw, hhp, ActT.cells, ActT.none, unqA, lineA]
        try simp only [maskL, setsL, putsO, putO, mB, List.set_cons_zero, List.set_cons_succ, seval]
        simp only [hG, hW, hK, List.map_nil]
        exact Weak.mk (by simp only [go_sem, Le.refl, Le.any, Le.osl]) (fun _ _ h => h) rfl rfl
       ·
        have hF5 : cutW s ≠ wdS 5 := wd_ne hb57
        refine AWp_seqK fun Y0 y0 => ?_
        refine AWp_region ?_
        refine aops_chunk 1 fun Q0 q0 => ?_
        simp only [↓bO, go_sem, seval, hhw, hhp, ActT.cells, ActT.none, unqA, lineA]
        refine q0 _ ?_
        clear q0 Q0
        simp only [go_sem]
        simp only [↓bO, go_sem, seval, hhw, hhp, ActT.cells, ActT.none, unqA, lineA]
        refine y0 _ ?_
        try clear y0 Y0
        refine AWp_cond rfl (fun hb65 => ?_) (fun hb65 => ?_)
        ·
         have hF : cutW s = wdS 6 := wd_eq hb65
         have hK : kindOf (cutW s) = 6 := by (rw [hF]; decide)
         have hW : docW0 s = wordsL 8 (tb s) := by (unfold docW0; rw [hK]; rfl)
         have hG : docG0 s = (((wordsL 8 (tb s)).length : Int) == 4) := by (unfold docG0 docG1 docW; rw [hK]; exact lenB _ 4)
         have hN : (ActT.none (kindOf (cutW s))).cells = (ActT.none 6).cells := by rw [hK]
         refine AWp_seqK fun Y0 y0 => ?_
         refine AWp_region ?_
         refine aops_chunk 1 fun Q0 q0 => ?_
         simp only [↓bO, go_sem, seval, hhw, hhp, ActT.cells, ActT.none, unqA, lineA]
         refine q0 _ ?_
         clear q0 Q0
         simp only [go_sem]
         simp only [↓bO, go_sem, seval, hhw, hhp, ActT.cells, ActT.none, unqA, lineA]
         refine y0 _ ?_
         try clear y0 Y0
         refine AWp_seqK fun Y0 y0 => ?_
         refine AWp_region ?_
         refine aops_chunk 1 fun Q0 q0 => ?_
         simp only [↓bO, go_sem, seval, hhw, hhp, ActT.cells, ActT.none, unqA, lineA]
         refine q0 _ ?_
         clear q0 Q0
         simp only [go_sem]
         refine aops_chunk 1 fun Q0 q0 => ?_
         simp only [↓bO, go_sem, seval, hhw, hhp, ActT.cells, ActT.none, unqA, lineA]
         refine APure.call (by have h9 := RWd_pure s 8 (by omega) (by omega); exact h9) ?_
         try simp only [bS, bA, thenQ, blockQ, noGotoQ]
         refine q0 _ ?_
         clear q0 Q0
         simp only [go_sem]
         simp only [↓bO, go_sem, seval, hhw, hhp, ActT.cells, ActT.none, unqA, lineA]
         refine y0 _ ?_
         try clear y0 Y0
         refine AWp_region ?_
         iterate 3 (refine aops_chunk 1 fun Q0 q0 => ?_; simp only [↓bO, go_sem, seval, hhw, hhp, ActT.cells, ActT.none, unqA, lineA]; refine q0 _ ?_; clear q0 Q0; simp only [go_sem])
         simp only [↓bO, go_sem, seval, hhw, hhp, ActT.cells, ActT.none, unqA, lineA]
         try simp only [maskL, setsL, putsO, putO, mB, List.set_cons_zero, List.set_cons_succ, seval]
         simp only [hG, hW, hK, List.map_nil]
         exact Weak.mk (by simp only [go_sem, Le.refl, Le.any, Le.osl]) (fun _ _ h => h) rfl rfl
        ·
         have hF6 : cutW s ≠ wdS 6 := wd_ne hb65
         refine AWp_seqK fun Y0 y0 => ?_
         refine AWp_region ?_
         refine aops_chunk 1 fun Q0 q0 => ?_
         simp only [↓bO, go_sem, seval, hhw, hhp, ActT.cells, ActT.none, unqA, lineA]
         refine q0 _ ?_
         clear q0 Q0
         simp only [go_sem]
         simp only [↓bO, go_sem, seval, hhw, hhp, ActT.cells, ActT.none, unqA, lineA]
         refine y0 _ ?_
         try clear y0 Y0
         refine AWp_cond rfl (fun hb73 => ?_) (fun hb73 => ?_)
         ·
          have hF : cutW s = wdS 7 := wd_eq hb73
          have hK : kindOf (cutW s) = 7 := by (rw [hF]; decide)
          have hW : docW0 s = [] := by (unfold docW0; rw [hK]; rfl)
          have hG : docG0 s = (s.toList == (⟨#[108, 105, 115, 116]⟩ : ByteArray).toList) := by (unfold docG0 docG1; rw [hK]; rw [Bool.eq_iff_iff, eqL_iff]; exact (decide_eq_true_iff (p := tb s = tb (wdS 7))).trans ⟨fun h => tb_inj h, fun h => congrArg tb h⟩)
          have hN : (ActT.none (kindOf (cutW s))).cells = (ActT.none 7).cells := by rw [hK]
          refine AWp_seqK fun Y0 y0 => ?_
          refine AWp_region ?_
          refine aops_chunk 1 fun Q0 q0 => ?_
          simp only [↓bO, go_sem, seval, hhw, hhp, ActT.cells, ActT.none, unqA, lineA]
          refine q0 _ ?_
          clear q0 Q0
          simp only [go_sem]
          simp only [↓bO, go_sem, seval, hhw, hhp, ActT.cells, ActT.none, unqA, lineA]
          refine y0 _ ?_
          try clear y0 Y0
          refine AWp_region ?_
          iterate 2 (refine aops_chunk 1 fun Q0 q0 => ?_; simp only [↓bO, go_sem, seval, hhw, hhp, ActT.cells, ActT.none, unqA, lineA]; refine q0 _ ?_; clear q0 Q0; simp only [go_sem])
          simp only [↓bO, go_sem, seval, hhw, hhp, ActT.cells, ActT.none, unqA, lineA]
          try simp only [maskL, setsL, putsO, putO, mB, List.set_cons_zero, List.set_cons_succ, seval]
          simp only [hG, hW, hK, List.map_nil]
          exact Weak.mk (by simp only [go_sem, Le.refl, Le.any, Le.osl]) (fun _ _ h => h) rfl rfl
         ·
          have hF7 : cutW s ≠ wdS 7 := wd_ne hb73
          have hK : kindOf (cutW s) = 0 := kindOf_none hF1 hF2 hF3 hF4 hF5 hF6 hF7
          have hW : docW0 s = [] := by (unfold docW0; rw [hK]; rfl)
          have hG : docG0 s = false := by (unfold docG0; rw [hK]; rfl)
          have hN : (ActT.none (kindOf (cutW s))).cells = (ActT.none 0).cells := by rw [hK]
          refine AWp_region ?_
          simp only [↓bO, go_sem, seval, hhw, hhp, ActT.cells, ActT.none, unqA, lineA]
          try simp only [maskL, setsL, putsO, putO, mB, List.set_cons_zero, List.set_cons_succ, seval]
          simp only [hG, hW, hK, List.map_nil]
          exact Weak.mk (by simp only [go_sem, Le.refl, Le.any, Le.osl]) (fun _ _ h => h) rfl rfl
  simp only [maskL, setsL, putsO, putO, mB, List.set_cons_zero, List.set_cons_succ, seval]
  refine AWp_seqK fun Y0 y0 => ?_
  refine AWp_seqK fun Y1 y1 => ?_
  refine AWp_region ?_
  refine aops_chunk 1 fun Q0 q0 => ?_
  simp only [↓bO, go_sem, seval, hhw, hhp, ActT.cells, ActT.none, unqA, lineA]
  refine q0 _ ?_
  clear q0 Q0
  simp only [go_sem]
  simp only [↓bO, go_sem, seval, hhw, hhp, ActT.cells, ActT.none, unqA, lineA]
  refine y1 _ ?_
  try clear y1 Y1
  refine AWp_cond rfl (fun hb79 => ?_) (fun hb79 => ?_)
  ·
   have hg0 : docG0 s = false := (by have h9 := hb79; simpa using h9)
   have hno := doc_bad (docG0_no hg0)
   refine AWp_seqK fun Y1 y1 => ?_
   refine AWp_region ?_
   iterate 2 (refine aops_chunk 1 fun Q0 q0 => ?_; simp only [↓bO, go_sem, seval, hhw, hhp, ActT.cells, ActT.none, unqA, lineA]; refine q0 _ ?_; clear q0 Q0; simp only [go_sem])
   simp only [↓bO, go_sem, seval, hhw, hhp, ActT.cells, ActT.none, unqA, lineA]
   refine y1 _ ?_
   try clear y1 Y1
   refine AWp_ret ?_
   try simp only [thenQ, blockQ, noGotoQ, retQ, aRes, tupOf, bS, bA, aLoad, getO, pack, bL, Nat.reduceAdd, Nat.reduceLeDiff, Nat.reduceEqDiff, ↓reduceIte, ti30, hhw, hhp, List.length_map, ActT.cells, ActT.none, unqA, lineA]
   rw [hno.1, hno.2]
   exact Le.refl _
  ·
   have hg0 : docG0 s = true := (by have h9 := hb79; simpa using h9)
   obtain ⟨hkn, hg1, hww⟩ := docG0_yes hg0
   have hkk := kinds hkn
   have hlen : kindOf (cutW s) ≠ 7 → _ := docG1_len hkn hg1
   simp only [hww, hg0]
   refine AWp_skip ?_
   try simp only [thenQ, blockQ, noGotoQ]
   refine y0 _ ?_
   try clear y0 Y0
   refine AWp_joinM (mB 172 372) ([]) ([(2, .cells 30 [.v (.int .i64 (kindOf (cutW s))), .v (.string (if kindOf (cutW s) < 6 then wAt (docW s (kindOf (cutW s))) 1 else ByteArray.empty)), .v (.int .i64 (0)), .v (.int .i64 (0)), .v (.string (ByteArray.empty)), .v (.int .i64 (0)), .v (.int .i64 (0)), .v (.int .i64 (0)), .v (.int .i64 (0))])]) ?_ ?_
   ·
    refine AWp_seqK fun Y0 y0 => ?_
    refine AWp_region ?_
    iterate 2 (refine aops_chunk 1 fun Q0 q0 => ?_; simp only [↓bO, go_sem, seval, hhw, hhp, ActT.cells, ActT.none, unqA, lineA]; refine q0 _ ?_; clear q0 Q0; simp only [go_sem])
    simp only [↓bO, go_sem, seval, hhw, hhp, ActT.cells, ActT.none, unqA, lineA]
    refine y0 _ ?_
    try clear y0 Y0
    refine AWp_cond rfl (fun hb83 => ?_) (fun hb83 => ?_)
    ·
     have hk6 : kindOf (cutW s) < 6 := (by have h9 := hb83; simp at h9; omega)
     have hl := (hlen (by omega)).2.1
     have hl9 := (hlen (by omega)).2.2.2.2.2
     have hl1 : ((1 : Int) < ((docW s (kindOf (cutW s))).length : Int)) = True := eq_true (by omega)
     have hx1 := wC_at (w := docW s (kindOf (cutW s))) (i := 1) (by omega)
     have hnm : (if kindOf (cutW s) < 6 then wAt (docW s (kindOf (cutW s))) 1 else ByteArray.empty) = wAt (docW s (kindOf (cutW s))) 1 := if_pos hk6
     refine AWp_region ?_
     iterate 4 (refine aops_chunk 1 fun Q0 q0 => ?_; simp only [↓bO, go_sem, seval, hhw, hhp, ActT.cells, ActT.none, unqA, lineA, hl1, hx1]; refine q0 _ ?_; clear q0 Q0; simp only [go_sem])
     simp only [↓bO, go_sem, seval, hhw, hhp, ActT.cells, ActT.none, unqA, lineA, hl1, hx1]
     try simp only [maskL, setsL, putsO, putO, mB, List.set_cons_zero, List.set_cons_succ, seval]
     rw [hnm]
     exact Weak.mk (by simp only [go_sem, Le.refl, Le.any]) (fun _ _ h => h) rfl rfl
    ·
     have hk6 : ¬ kindOf (cutW s) < 6 := (by have h9 := hb83; simp at h9; omega)
     have hnm : (if kindOf (cutW s) < 6 then wAt (docW s (kindOf (cutW s))) 1 else ByteArray.empty) = ByteArray.empty := if_neg hk6
     refine AWp_skip ?_
     try simp only [thenQ, blockQ, noGotoQ]
     try simp only [maskL, setsL, putsO, putO, mB, List.set_cons_zero, List.set_cons_succ, seval]
     rw [hnm]
     exact Weak.mk (by simp only [go_sem, Le.refl, Le.any]) (fun _ _ h => h) rfl rfl
   simp only [maskL, setsL, putsO, putO, mB, List.set_cons_zero, List.set_cons_succ, seval]
   refine AWp_joinM (mB 172 372) ([(6, .v (.bool (docG2 (kindOf (cutW s)) (docW s (kindOf (cutW s))))))]) ([(2, .cells 30 [.v (.int .i64 (kindOf (cutW s))), .v (.string (if kindOf (cutW s) < 6 then wAt (docW s (kindOf (cutW s))) 1 else ByteArray.empty)), .v (.int .i64 (0)), .v (.int .i64 (0)), .v (.string (if kindOf (cutW s) < 3 then unqS (wAt (docW s (kindOf (cutW s))) ((docW s (kindOf (cutW s))).length - 1)) else ByteArray.empty)), .v (.int .i64 (0)), .v (.int .i64 (0)), .v (.int .i64 (0)), .v (.int .i64 (0))])]) ?_ ?_
   ·
    refine AWp_seqK fun Y0 y0 => ?_
    refine AWp_region ?_
    iterate 2 (refine aops_chunk 1 fun Q0 q0 => ?_; simp only [↓bO, go_sem, seval, hhw, hhp, ActT.cells, ActT.none, unqA, lineA]; refine q0 _ ?_; clear q0 Q0; simp only [go_sem])
    simp only [↓bO, go_sem, seval, hhw, hhp, ActT.cells, ActT.none, unqA, lineA]
    refine y0 _ ?_
    try clear y0 Y0
    refine AWp_cond rfl (fun hb90 => ?_) (fun hb90 => ?_)
    ·
     have hk3 : kindOf (cutW s) < 3 := (by have h9 := hb90; simp at h9; omega)
     have hl := (hlen (by omega)).2.1
     have hl9 := (hlen (by omega)).2.2.2.2.2
     have hw1 : IntKind.i64.wrap (((docW s (kindOf (cutW s))).length : Int) - 1) = (((docW s (kindOf (cutW s))).length - 1 : Nat) : Int) := by (rw [wrap_in (by omega) (by omega)]; omega)
     have hl2 : ((((docW s (kindOf (cutW s))).length - 1 : Nat) : Int) < ((docW s (kindOf (cutW s))).length : Int)) = True := eq_true (by omega)
     have hl3 : ((docW s (kindOf (cutW s))).length - 1 < (docW s (kindOf (cutW s))).length) = True := eq_true (by omega)
     have hx2 := wC_at (w := docW s (kindOf (cutW s))) (i := (docW s (kindOf (cutW s))).length - 1) (by omega)
     have htx : (if kindOf (cutW s) < 3 then unqS (wAt (docW s (kindOf (cutW s))) ((docW s (kindOf (cutW s))).length - 1)) else ByteArray.empty) = unqS (wAt (docW s (kindOf (cutW s))) ((docW s (kindOf (cutW s))).length - 1)) := if_pos hk3
     have hg2 : docG2 (kindOf (cutW s)) (docW s (kindOf (cutW s))) = (unqL (wAt (docW s (kindOf (cutW s))) ((docW s (kindOf (cutW s))).length - 1)).data.toList).isSome := if_pos hk3
     have hwz := docW_sz s (kindOf (cutW s)) ((docW s (kindOf (cutW s))).length - 1)
     refine AWp_seqK fun Y0 y0 => ?_
     refine AWp_region ?_
     iterate 6 (refine aops_chunk 1 fun Q0 q0 => ?_; simp only [↓bO, go_sem, seval, hhw, hhp, ActT.cells, ActT.none, unqA, lineA, hw1, hl2, hl3, hx2]; refine q0 _ ?_; clear q0 Q0; simp only [go_sem])
     refine aops_chunk 1 fun Q0 q0 => ?_
     simp only [↓bO, go_sem, seval, hhw, hhp, ActT.cells, ActT.none, unqA, lineA, hw1, hl2, hl3, hx2]
     refine APure.call (RUnquote_pure (wAt (docW s (kindOf (cutW s))) ((docW s (kindOf (cutW s))).length - 1)) (by omega)) ?_
     try simp only [bS, bA, thenQ, blockQ, noGotoQ]
     refine q0 _ ?_
     clear q0 Q0
     simp only [go_sem]
     refine aops_chunk 1 fun Q0 q0 => ?_
     simp only [↓bO, go_sem, seval, hhw, hhp, ActT.cells, ActT.none, unqA, lineA, hw1, hl2, hl3, hx2]
     iterate 2 (refine q0 _ ?_; clear q0 Q0; simp only [go_sem]; refine aops_chunk 1 fun Q0 q0 => ?_; simp only [↓bO, go_sem, seval, aExtract_tup, hhw, hhp, ActT.cells, ActT.none, unqA, lineA, hw1, hl2, hl3, hx2])
     refine q0 _ ?_
     clear q0 Q0
     simp only [go_sem]
     refine aops_chunk 1 fun Q0 q0 => ?_
     simp only [↓bO, go_sem, seval, hhw, hhp, ActT.cells, ActT.none, unqA, lineA, hw1, hl2, hl3, hx2]
     refine q0 _ ?_
     clear q0 Q0
     simp only [go_sem]
     simp only [↓bO, go_sem, seval, hhw, hhp, ActT.cells, ActT.none, unqA, lineA, hw1, hl2, hl3, hx2]
     refine y0 _ ?_
     try clear y0 Y0
     refine AWp_region ?_
     iterate 4 (refine aops_chunk 1 fun Q0 q0 => ?_; simp only [↓bO, go_sem, seval, hhw, hhp, ActT.cells, ActT.none, unqA, lineA, hw1, hl2, hl3, hx2]; refine q0 _ ?_; clear q0 Q0; simp only [go_sem])
     simp only [↓bO, go_sem, seval, hhw, hhp, ActT.cells, ActT.none, unqA, lineA, hw1, hl2, hl3, hx2]
     try simp only [maskL, setsL, putsO, putO, mB, List.set_cons_zero, List.set_cons_succ, seval]
     rw [htx, hg2]
     exact Weak.mk (by simp only [go_sem, Le.refl, Le.any]) (fun _ _ h => h) rfl rfl
    ·
     have hk3 : ¬ kindOf (cutW s) < 3 := (by have h9 := hb90; simp at h9; omega)
     have htx : (if kindOf (cutW s) < 3 then unqS (wAt (docW s (kindOf (cutW s))) ((docW s (kindOf (cutW s))).length - 1)) else ByteArray.empty) = ByteArray.empty := if_neg hk3
     have hg2 : docG2 (kindOf (cutW s)) (docW s (kindOf (cutW s))) = true := if_neg hk3
     refine AWp_skip ?_
     try simp only [thenQ, blockQ, noGotoQ]
     try simp only [maskL, setsL, putsO, putO, mB, List.set_cons_zero, List.set_cons_succ, seval]
     rw [htx, hg2]
     exact Weak.mk (by simp only [go_sem, Le.refl, Le.any]) (fun _ _ h => h) rfl rfl
   simp only [maskL, setsL, putsO, putO, mB, List.set_cons_zero, List.set_cons_succ, seval]
   refine AWp_seqK fun Y0 y0 => ?_
   refine AWp_region ?_
   simp only [↓bO, go_sem, seval, hhw, hhp, ActT.cells, ActT.none, unqA, lineA]
   refine y0 _ ?_
   try clear y0 Y0
   refine AWp_seqK fun Y0 y0 => ?_
   refine AWp_region ?_
   refine aops_chunk 1 fun Q0 q0 => ?_
   simp only [↓bO, go_sem, seval, hhw, hhp, ActT.cells, ActT.none, unqA, lineA]
   refine q0 _ ?_
   clear q0 Q0
   simp only [go_sem]
   simp only [↓bO, go_sem, seval, hhw, hhp, ActT.cells, ActT.none, unqA, lineA]
   refine y0 _ ?_
   try clear y0 Y0
   refine AWp_joinM (mB 172 14708) ([(12, .v (.int .i64 ((nF (kindOf (cutW s)) : Nat) : Int))), (13, .v (.int .i64 ((nM (kindOf (cutW s)) : Nat) : Int)))]) ([]) ?_ ?_
   ·
    refine AWp_seqK fun Y0 y0 => ?_
    refine AWp_region ?_
    refine aops_chunk 1 fun Q0 q0 => ?_
    simp only [↓bO, go_sem, seval, hhw, hhp, ActT.cells, ActT.none, unqA, lineA]
    refine q0 _ ?_
    clear q0 Q0
    simp only [go_sem]
    simp only [↓bO, go_sem, seval, hhw, hhp, ActT.cells, ActT.none, unqA, lineA]
    refine y0 _ ?_
    try clear y0 Y0
    refine AWp_block ?_
    refine AWp_seqK fun Y0 y0 => ?_
    refine AWp_region ?_
    refine aops_chunk 1 fun Q0 q0 => ?_
    simp only [↓bO, go_sem, seval, hhw, hhp, ActT.cells, ActT.none, unqA, lineA]
    refine q0 _ ?_
    clear q0 Q0
    simp only [go_sem]
    simp only [↓bO, go_sem, seval, hhw, hhp, ActT.cells, ActT.none, unqA, lineA]
    refine y0 _ ?_
    try clear y0 Y0
    refine AWp_cond rfl (fun hb106 => ?_) (fun hb106 => ?_)
    ·
     have hk2 : kindOf (cutW s) = 2 := (by have h9 := hb106; simp at h9; omega)
     have hnf : nF (kindOf (cutW s)) = 2 := by (rw [hk2]; rfl)
     have hnm2 : nM (kindOf (cutW s)) = 2 := by (rw [hk2]; rfl)
     refine AWp_region ?_
     refine aops_chunk 1 fun Q0 q0 => ?_
     simp only [↓bO, go_sem, seval, hhw, hhp, ActT.cells, ActT.none, unqA, lineA]
     refine q0 _ ?_
     clear q0 Q0
     simp only [go_sem]
     simp only [↓bO, go_sem, seval, hhw, hhp, ActT.cells, ActT.none, unqA, lineA]
     try simp only [maskL, setsL, putsO, putO, mB, List.set_cons_zero, List.set_cons_succ, seval]
     rw [hnf, hnm2]
     exact Weak.mk (by simp only [go_sem, Le.refl, Le.any]) (fun _ _ h => h) rfl rfl
    ·
     have hk2 : ¬ kindOf (cutW s) = 2 := (by have h9 := hb106; simp at h9; omega)
     refine AWp_seqK fun Y0 y0 => ?_
     refine AWp_region ?_
     refine aops_chunk 1 fun Q0 q0 => ?_
     simp only [↓bO, go_sem, seval, hhw, hhp, ActT.cells, ActT.none, unqA, lineA]
     refine q0 _ ?_
     clear q0 Q0
     simp only [go_sem]
     simp only [↓bO, go_sem, seval, hhw, hhp, ActT.cells, ActT.none, unqA, lineA]
     refine y0 _ ?_
     try clear y0 Y0
     refine AWp_cond rfl (fun hb108 => ?_) (fun hb108 => ?_)
     ·
      have hk5 : kindOf (cutW s) = 5 := (by have h9 := hb108; simp at h9; omega)
      have hnf : nF (kindOf (cutW s)) = 2 := by (rw [hk5]; rfl)
      have hnm2 : nM (kindOf (cutW s)) = 1 := by (rw [hk5]; rfl)
      refine AWp_region ?_
      refine aops_chunk 1 fun Q0 q0 => ?_
      simp only [↓bO, go_sem, seval, hhw, hhp, ActT.cells, ActT.none, unqA, lineA]
      refine q0 _ ?_
      clear q0 Q0
      simp only [go_sem]
      simp only [↓bO, go_sem, seval, hhw, hhp, ActT.cells, ActT.none, unqA, lineA]
      try simp only [maskL, setsL, putsO, putO, mB, List.set_cons_zero, List.set_cons_succ, seval]
      rw [hnf, hnm2]
      exact Weak.mk (by simp only [go_sem, Le.refl, Le.any]) (fun _ _ h => h) rfl rfl
     ·
      have hk5 : ¬ kindOf (cutW s) = 5 := (by have h9 := hb108; simp at h9; omega)
      refine AWp_seqK fun Y0 y0 => ?_
      refine AWp_region ?_
      refine aops_chunk 1 fun Q0 q0 => ?_
      simp only [↓bO, go_sem, seval, hhw, hhp, ActT.cells, ActT.none, unqA, lineA]
      refine q0 _ ?_
      clear q0 Q0
      simp only [go_sem]
      simp only [↓bO, go_sem, seval, hhw, hhp, ActT.cells, ActT.none, unqA, lineA]
      refine y0 _ ?_
      try clear y0 Y0
      refine AWp_cond rfl (fun hb110 => ?_) (fun hb110 => ?_)
      ·
       have hk6 : kindOf (cutW s) = 6 := (by have h9 := hb110; simp at h9; omega)
       have hnf : nF (kindOf (cutW s)) = 1 := by (rw [hk6]; rfl)
       have hnm2 : nM (kindOf (cutW s)) = 3 := by (rw [hk6]; rfl)
       refine AWp_region ?_
       refine aops_chunk 1 fun Q0 q0 => ?_
       simp only [↓bO, go_sem, seval, hhw, hhp, ActT.cells, ActT.none, unqA, lineA]
       refine q0 _ ?_
       clear q0 Q0
       simp only [go_sem]
       simp only [↓bO, go_sem, seval, hhw, hhp, ActT.cells, ActT.none, unqA, lineA]
       try simp only [maskL, setsL, putsO, putO, mB, List.set_cons_zero, List.set_cons_succ, seval]
       rw [hnf, hnm2]
       exact Weak.mk (by simp only [go_sem, Le.refl, Le.any]) (fun _ _ h => h) rfl rfl
      ·
       have hk6 : ¬ kindOf (cutW s) = 6 := (by have h9 := hb110; simp at h9; omega)
       have hnf : nF (kindOf (cutW s)) = 0 := by (unfold nF; rw [if_neg hk2, if_neg hk5, if_neg hk6])
       have hnm2 : nM (kindOf (cutW s)) = 0 := by (unfold nM; rw [if_neg hk2, if_neg hk5, if_neg hk6])
       refine AWp_skip ?_
       try simp only [thenQ, blockQ, noGotoQ]
       try simp only [maskL, setsL, putsO, putO, mB, List.set_cons_zero, List.set_cons_succ, seval]
       rw [hnf, hnm2]
       exact Weak.mk (by simp only [go_sem, Le.refl, Le.any]) (fun _ _ h => h) rfl rfl
   simp only [maskL, setsL, putsO, putO, mB, List.set_cons_zero, List.set_cons_succ, seval]
   have hnb : nM (kindOf (cutW s)) ≤ 3 ∧ (0 < nM (kindOf (cutW s)) → kindOf (cutW s) ≠ 7 ∧ nF (kindOf (cutW s)) + nM (kindOf (cutW s)) ≤ (docW s (kindOf (cutW s))).length) := by (rcases hkk with h | h | h | h | h | h | h <;> rw [h] at hlen ⊢ <;> simp only [nM, nF, Int.reduceEq, ↓reduceIte] <;> (first | omega | (have h8 := hlen (by decide); refine ⟨by decide, fun _ => ⟨by decide, ?_⟩⟩; rw [h] at *; have := h8.2.2.1; have := h8.2.2.2.1; have := h8.2.2.2.2.1; omega)))
   generalize hNF : nF (kindOf (cutW s)) = f at *
   generalize hNM : nM (kindOf (cutW s)) = m at *
   refine AWp_seqK fun Y0 y0 => ?_
   refine AWp_seqK fun Y1 y1 => ?_
   refine AWp_region ?_
   simp only [↓bO, go_sem, seval, hhw, hhp, ActT.cells, ActT.none, unqA, lineA]
   refine y1 _ ?_
   try clear y1 Y1
   refine AWp_block ?_
   refine AWp_loopM (σ := Nat) (mB 172 31092) (fun i => i ≤ m) (fun i => [(14, .v (.int .i64 (i : Int))), (6, .v (.bool (nO (docW s (kindOf (cutW s))) f (docG2 (kindOf (cutW s)) (docW s (kindOf (cutW s)))) i)))]) (fun i => [(4, .cells 67 [.v (.int .i64 (nV (docW s (kindOf (cutW s))) f (i) 0)), .v (.int .i64 (nV (docW s (kindOf (cutW s))) f (i) 1)), .v (.int .i64 (nV (docW s (kindOf (cutW s))) f (i) 2))])]) (fun i => m - i) 0 ((by omega)) ?_ (fun i hi => ?_)
   ·
    try simp only [maskL, setsL, putsO, putO, mB, List.set_cons_zero, List.set_cons_succ, seval, nV, nO, Int.natCast_zero, Nat.not_lt_zero]
    exact Weak.mk (by simp only [go_sem, Le.refl, Le.any, Le.slNil, Int.natCast_add, Int.cast_ofNat_Int, Int.natCast_one]) (fun _ _ h => h) rfl rfl
   simp only [maskL, setsL, putsO, putO, mB, List.set_cons_zero, List.set_cons_succ, seval]
   have hw0 : IntKind.i64.wrap ((i : Int) + 1) = ((i + 1 : Nat) : Int) := by (rw [wrap_in (by omega) (by omega)]; omega)
   refine AWp_seqK fun Y1 y1 => ?_
   refine AWp_seqK fun Y2 y2 => ?_
   refine AWp_region ?_
   iterate 2 (refine aops_chunk 1 fun Q0 q0 => ?_; simp only [↓bO, go_sem, seval, hhw, hhp, ActT.cells, ActT.none, unqA, lineA, hw0]; refine q0 _ ?_; clear q0 Q0; simp only [go_sem])
   simp only [↓bO, go_sem, seval, hhw, hhp, ActT.cells, ActT.none, unqA, lineA, hw0]
   refine y2 _ ?_
   try clear y2 Y2
   refine AWp_cond rfl (fun hb114 => ?_) (fun hb114 => ?_)
   ·
    have hlt : i < m := (by have h9 := hb114; simpa using h9)
    have hfm := hnb.2 (by omega)
    have hl9 := (hlen hfm.1).2.2.2.2.2
    have hi3 : i = 0 ∨ i = 1 ∨ i = 2 := by omega
    have hw2 : IntKind.i64.wrap ((f : Int) + (i : Int)) = ((f + i : Nat) : Int) := by (rw [wrap_in (by omega) (by omega)]; omega)
    have hl4 : (((f + i : Nat) : Int) < ((docW s (kindOf (cutW s))).length : Int)) = True := eq_true (by omega)
    have hl5 : (f + i < (docW s (kindOf (cutW s))).length) = True := eq_true (by omega)
    have hx3 := wC_at (w := docW s (kindOf (cutW s))) (i := f + i) (by omega)
    have hwz := docW_sz s (kindOf (cutW s)) (f + i)
    have hl6 : ((i : Int) < 3) = True := eq_true (by omega)
    have hl7 : (i + 1 ≤ 3) = True := eq_true (by omega)
    have hl8 : (i < 3) = True := eq_true (by omega)
    refine AWp_skip ?_
    try simp only [thenQ, blockQ, noGotoQ]
    refine y1 _ ?_
    try clear y1 Y1
    refine AWp_seqK fun Y1 y1 => ?_
    refine AWp_block ?_
    refine AWp_seqK fun Y2 y2 => ?_
    refine AWp_region ?_
    iterate 6 (refine aops_chunk 1 fun Q0 q0 => ?_; simp only [↓bO, go_sem, seval, hhw, hhp, ActT.cells, ActT.none, unqA, lineA, hw0, hw2, hl4, hl5, hx3, hl6, hl7, hl8]; refine q0 _ ?_; clear q0 Q0; simp only [go_sem])
    refine aops_chunk 1 fun Q0 q0 => ?_
    simp only [↓bO, go_sem, seval, hhw, hhp, ActT.cells, ActT.none, unqA, lineA, hw0, hw2, hl4, hl5, hx3, hl6, hl7, hl8]
    refine APure.call (RNum_pure (wAt (docW s (kindOf (cutW s))) (f + i)) (by omega)) ?_
    try simp only [bS, bA, thenQ, blockQ, noGotoQ]
    refine q0 _ ?_
    clear q0 Q0
    simp only [go_sem]
    refine aops_chunk 1 fun Q0 q0 => ?_
    simp only [↓bO, go_sem, seval, hhw, hhp, ActT.cells, ActT.none, unqA, lineA, hw0, hw2, hl4, hl5, hx3, hl6, hl7, hl8]
    iterate 2 (refine q0 _ ?_; clear q0 Q0; simp only [go_sem]; refine aops_chunk 1 fun Q0 q0 => ?_; simp only [↓bO, go_sem, seval, aExtract_tup, hhw, hhp, ActT.cells, ActT.none, unqA, lineA, hw0, hw2, hl4, hl5, hx3, hl6, hl7, hl8])
    refine q0 _ ?_
    clear q0 Q0
    simp only [go_sem]
    refine aops_chunk 1 fun Q0 q0 => ?_
    simp only [↓bO, go_sem, seval, hhw, hhp, ActT.cells, ActT.none, unqA, lineA, hw0, hw2, hl4, hl5, hx3, hl6, hl7, hl8]
    refine q0 _ ?_
    clear q0 Q0
    simp only [go_sem]
    simp only [↓bO, go_sem, seval, hhw, hhp, ActT.cells, ActT.none, unqA, lineA, hw0, hw2, hl4, hl5, hx3, hl6, hl7, hl8]
    refine y2 _ ?_
    try clear y2 Y2
    refine AWp_region ?_
    iterate 4 (refine aops_chunk 1 fun Q0 q0 => ?_; simp only [↓bO, go_sem, seval, hhw, hhp, ActT.cells, ActT.none, unqA, lineA, hw0, hw2, hl4, hl5, hx3, hl6, hl7, hl8]; refine q0 _ ?_; clear q0 Q0; simp only [go_sem])
    refine aops_case 130 rfl (fun hc130 => ?_) (fun hc130 => ?_)
    ·
     simp only [List.set_cons_zero, List.set_cons_succ]
     iterate 4 (refine aops_chunk 1 fun Q0 q0 => ?_; simp only [↓bO, go_sem, seval, hhw, hhp, ActT.cells, ActT.none, unqA, lineA, hw0, hw2, hl4, hl5, hx3, hl6, hl7, hl8]; refine q0 _ ?_; clear q0 Q0; simp only [go_sem])
     simp only [↓bO, go_sem, seval, hhw, hhp, ActT.cells, ActT.none, unqA, lineA, hw0, hw2, hl4, hl5, hx3, hl6, hl7, hl8]
     refine y1 _ ?_
     try clear y1 Y1
     refine AWp_region ?_
     iterate 2 (refine aops_chunk 1 fun Q0 q0 => ?_; simp only [↓bO, go_sem, seval, hhw, hhp, ActT.cells, ActT.none, unqA, lineA, hw0, hw2, hl4, hl5, hx3, hl6, hl7, hl8]; refine q0 _ ?_; clear q0 Q0; simp only [go_sem])
     simp only [↓bO, go_sem, seval, hhw, hhp, ActT.cells, ActT.none, unqA, lineA, hw0, hw2, hl4, hl5, hx3, hl6, hl7, hl8]
     refine ⟨(i + 1), (by omega), (by omega), ?_⟩
     try simp only [maskL, setsL, putsO, putO, mB, List.set_cons_zero, List.set_cons_succ, seval, mB, seval, hw0]
     have hnu : (nuR (tb (wAt (docW s (kindOf (cutW s))) (f + i)))) = nuR ((docW s (kindOf (cutW s))).getD (f + i) []) := rfl
     have hno2 : ∀ i, nO (docW s (kindOf (cutW s))) f (docG2 (kindOf (cutW s)) (docW s (kindOf (cutW s)))) (i + 1) = (nO (docW s (kindOf (cutW s))) f (docG2 (kindOf (cutW s)) (docW s (kindOf (cutW s)))) i && (nuR ((docW s (kindOf (cutW s))).getD (f + i) [])).2) := fun i => rfl
     try simp only [hno2, hc130, hnu]
     rcases hi3 with rfl | rfl | rfl
     all_goals (simp only [nV, hno2, hc130, Bool.true_and, Bool.false_and, go_sem, seval]; try exact Weak.mk (by simp only [go_sem, Le.refl, Le.any]) (fun _ _ h => h) rfl rfl)
    ·
     simp only [List.set_cons_zero, List.set_cons_succ]
     iterate 4 (refine aops_chunk 1 fun Q0 q0 => ?_; simp only [↓bO, go_sem, seval, hhw, hhp, ActT.cells, ActT.none, unqA, lineA, hw0, hw2, hl4, hl5, hx3, hl6, hl7, hl8]; refine q0 _ ?_; clear q0 Q0; simp only [go_sem])
     simp only [↓bO, go_sem, seval, hhw, hhp, ActT.cells, ActT.none, unqA, lineA, hw0, hw2, hl4, hl5, hx3, hl6, hl7, hl8]
     refine y1 _ ?_
     try clear y1 Y1
     refine AWp_region ?_
     iterate 2 (refine aops_chunk 1 fun Q0 q0 => ?_; simp only [↓bO, go_sem, seval, hhw, hhp, ActT.cells, ActT.none, unqA, lineA, hw0, hw2, hl4, hl5, hx3, hl6, hl7, hl8]; refine q0 _ ?_; clear q0 Q0; simp only [go_sem])
     simp only [↓bO, go_sem, seval, hhw, hhp, ActT.cells, ActT.none, unqA, lineA, hw0, hw2, hl4, hl5, hx3, hl6, hl7, hl8]
     refine ⟨(i + 1), (by omega), (by omega), ?_⟩
     try simp only [maskL, setsL, putsO, putO, mB, List.set_cons_zero, List.set_cons_succ, seval, mB, seval, hw0]
     have hnu : (nuR (tb (wAt (docW s (kindOf (cutW s))) (f + i)))) = nuR ((docW s (kindOf (cutW s))).getD (f + i) []) := rfl
     have hno2 : ∀ i, nO (docW s (kindOf (cutW s))) f (docG2 (kindOf (cutW s)) (docW s (kindOf (cutW s)))) (i + 1) = (nO (docW s (kindOf (cutW s))) f (docG2 (kindOf (cutW s)) (docW s (kindOf (cutW s)))) i && (nuR ((docW s (kindOf (cutW s))).getD (f + i) [])).2) := fun i => rfl
     try simp only [hno2, hc130, hnu]
     rcases hi3 with rfl | rfl | rfl
     all_goals (simp only [nV, hno2, hc130, Bool.true_and, Bool.false_and, go_sem, seval]; try exact Weak.mk (by simp only [go_sem, Le.refl, Le.any]) (fun _ _ h => h) rfl rfl)
   ·
    have hge : ¬ i < m := (by have h9 := hb114; simpa using h9)
    obtain rfl : i = m := by omega
    subst hNF hNM
    have hno1 := nO_all hkn (docW s (kindOf (cutW s)))
    simp only [hno1]
    refine AWp_exit ?_
    simp only [thenQ, blockQ, noGotoQ, bA, Nat.reduceEqDiff, ↓reduceIte]
    refine y0 _ ?_
    try clear y0 Y0
    refine AWp_joinM (mB 172 116) ([]) ([(2, .cells 30 (docQ (kindOf (cutW s)) (docW s (kindOf (cutW s)))).cells)]) ?_ ?_
    ·
     refine AWp_seqK fun Y0 y0 => ?_
     refine AWp_region ?_
     refine aops_chunk 1 fun Q0 q0 => ?_
     simp only [↓bO, go_sem, seval, hhw, hhp, ActT.cells, ActT.none, unqA, lineA]
     refine q0 _ ?_
     clear q0 Q0
     simp only [go_sem]
     simp only [↓bO, go_sem, seval, hhw, hhp, ActT.cells, ActT.none, unqA, lineA]
     refine y0 _ ?_
     try clear y0 Y0
     refine AWp_block ?_
     refine AWp_seqK fun Y0 y0 => ?_
     refine AWp_region ?_
     refine aops_chunk 1 fun Q0 q0 => ?_
     simp only [↓bO, go_sem, seval, hhw, hhp, ActT.cells, ActT.none, unqA, lineA]
     refine q0 _ ?_
     clear q0 Q0
     simp only [go_sem]
     simp only [↓bO, go_sem, seval, hhw, hhp, ActT.cells, ActT.none, unqA, lineA]
     refine y0 _ ?_
     try clear y0 Y0
     refine AWp_cond rfl (fun hb136 => ?_) (fun hb136 => ?_)
     ·
      have hq2 : kindOf (cutW s) = 2 := (by have h9 := hb136; simp at h9; omega)
      have hQ : (docQ (kindOf (cutW s)) (docW s (kindOf (cutW s)))).cells = [.v (.int .i64 (kindOf (cutW s))), .v (.string (if kindOf (cutW s) < 6 then wAt (docW s (kindOf (cutW s))) 1 else ByteArray.empty)), .v (.int .i64 (nV (docW s (kindOf (cutW s))) (nF (kindOf (cutW s))) (nM (kindOf (cutW s))) 0)), .v (.int .i64 (nV (docW s (kindOf (cutW s))) (nF (kindOf (cutW s))) (nM (kindOf (cutW s))) 1)), .v (.string (if kindOf (cutW s) < 3 then unqS (wAt (docW s (kindOf (cutW s))) ((docW s (kindOf (cutW s))).length - 1)) else ByteArray.empty)), .v (.int .i64 (0)), .v (.int .i64 (0)), .v (.int .i64 (0)), .v (.int .i64 (0))] := by (simp only [docQ, ActT.cells, if_pos hq2, if_neg (show ¬ kindOf (cutW s) = 5 by omega), if_neg (show ¬ kindOf (cutW s) = 6 by omega)]; simp only [nV, nF, nM, if_pos hq2]; rfl)
      refine AAny_start [] 8 rfl mixed (trivial) rfl ?_
      dsimp only
      refine AAny_all2 (i := 0) (j := 2) (by kernel_rfl) ?_ ?_
      ·
       refine aAt_op rfl rfl fun Q0 q0 => ?_
       simp only [↓bO, go_sem, seval, hhw, hhp, ActT.cells, ActT.none, unqA, lineA]
       refine q0 _ ⟨trivial, ?_⟩
       clear q0 Q0
       refine AAny_all2 (i := 1) (j := 2) (by kernel_rfl) ?_ ?_
       ·
        refine aAt_op rfl rfl fun Q0 q0 => ?_
        simp only [↓bO, go_sem, seval, hhw, hhp, ActT.cells, ActT.none, unqA, lineA]
        refine q0 _ ⟨trivial, ?_⟩
        clear q0 Q0
        refine AAny_takeK 4 rfl (by kernel_rfl) (by kernel_rfl) (by kernel_rfl) (fun _ _ h => h) fun Q0 q0 => ?_
        simp only [↓bO, go_sem, seval, hhw, hhp, ActT.cells, ActT.none, unqA, lineA]
        refine q0 _ ?_
        clear q0 Q0
        refine AAny_all2 (i := 2) (j := 5) (by kernel_rfl) ?_ ?_
        ·
         refine aAt_op rfl rfl fun Q0 q0 => ?_
         simp only [↓bO, go_sem, seval, hhw, hhp, ActT.cells, ActT.none, unqA, lineA]
         refine q0 _ ⟨trivial, ?_⟩
         clear q0 Q0
         refine AAny_all2 (i := 3) (j := 5) (by kernel_rfl) ?_ ?_
         ·
          refine aAt_op rfl rfl fun Q0 q0 => ?_
          simp only [↓bO, go_sem, seval, hhw, hhp, ActT.cells, ActT.none, unqA, lineA]
          refine q0 _ ⟨trivial, ?_⟩
          clear q0 Q0
          refine AAny_all1 (i := 5) (by kernel_rfl) ?_
          ·
           refine aAt_op rfl rfl fun Q0 q0 => ?_
           simp only [↓bO, go_sem, seval, hhw, hhp, ActT.cells, ActT.none, unqA, lineA]
           refine q0 _ ⟨trivial, ?_⟩
           clear q0 Q0
           refine AAny_takeK 6 rfl (by kernel_rfl) (by kernel_rfl) (by kernel_rfl) (fun _ _ h => h) fun Q0 q0 => ?_
           simp only [↓bO, go_sem, seval, hhw, hhp, ActT.cells, ActT.none, unqA, lineA]
           refine q0 _ ?_
           clear q0 Q0
           refine AAny_all1 (i := 7) (by kernel_rfl) ?_
           ·
            refine aAt_op rfl rfl fun Q0 q0 => ?_
            simp only [↓bO, go_sem, seval, hhw, hhp, ActT.cells, ActT.none, unqA, lineA]
            refine q0 _ ⟨trivial, ?_⟩
            clear q0 Q0
            refine AAny_done (by kernel_rfl) ?_
            simp only [thenQ, blockQ, noGotoQ]
            try simp only [maskL, setsL, putsO, putO, mB, List.set_cons_zero, List.set_cons_succ, seval]
            first | rw [hQ] | simp only [docQ, nV, nF, nM, hqq, Int.reduceEq, Nat.reduceLT, ↓reduceIte]
            exact Weak.mk (by simp only [go_sem, Le.refl, Le.any]) (fun _ _ h => h) rfl rfl
         ·
          refine aAt_op rfl rfl fun Q0 q0 => ?_
          simp only [↓bO, go_sem, seval, hhw, hhp, ActT.cells, ActT.none, unqA, lineA]
          refine q0 _ ⟨trivial, ?_⟩
          clear q0 Q0
          refine AAny_all1 (i := 3) (by kernel_rfl) ?_
          ·
           refine aAt_op rfl rfl fun Q0 q0 => ?_
           simp only [↓bO, go_sem, seval, hhw, hhp, ActT.cells, ActT.none, unqA, lineA]
           refine q0 _ ⟨trivial, ?_⟩
           clear q0 Q0
           refine AAny_takeK 6 rfl (by kernel_rfl) (by kernel_rfl) (by kernel_rfl) (fun _ _ h => h) fun Q0 q0 => ?_
           simp only [↓bO, go_sem, seval, hhw, hhp, ActT.cells, ActT.none, unqA, lineA]
           refine q0 _ ?_
           clear q0 Q0
           refine AAny_all1 (i := 7) (by kernel_rfl) ?_
           ·
            refine aAt_op rfl rfl fun Q0 q0 => ?_
            simp only [↓bO, go_sem, seval, hhw, hhp, ActT.cells, ActT.none, unqA, lineA]
            refine q0 _ ⟨trivial, ?_⟩
            clear q0 Q0
            refine AAny_done (by kernel_rfl) ?_
            simp only [thenQ, blockQ, noGotoQ]
            try simp only [maskL, setsL, putsO, putO, mB, List.set_cons_zero, List.set_cons_succ, seval]
            first | rw [hQ] | simp only [docQ, nV, nF, nM, hqq, Int.reduceEq, Nat.reduceLT, ↓reduceIte]
            exact Weak.mk (by simp only [go_sem, Le.refl, Le.any]) (fun _ _ h => h) rfl rfl
        ·
         refine aAt_op rfl rfl fun Q0 q0 => ?_
         simp only [↓bO, go_sem, seval, hhw, hhp, ActT.cells, ActT.none, unqA, lineA]
         refine q0 _ ⟨trivial, ?_⟩
         clear q0 Q0
         refine AAny_all1 (i := 2) (by kernel_rfl) ?_
         ·
          refine aAt_op rfl rfl fun Q0 q0 => ?_
          simp only [↓bO, go_sem, seval, hhw, hhp, ActT.cells, ActT.none, unqA, lineA]
          refine q0 _ ⟨trivial, ?_⟩
          clear q0 Q0
          refine AAny_all1 (i := 3) (by kernel_rfl) ?_
          ·
           refine aAt_op rfl rfl fun Q0 q0 => ?_
           simp only [↓bO, go_sem, seval, hhw, hhp, ActT.cells, ActT.none, unqA, lineA]
           refine q0 _ ⟨trivial, ?_⟩
           clear q0 Q0
           refine AAny_takeK 6 rfl (by kernel_rfl) (by kernel_rfl) (by kernel_rfl) (fun _ _ h => h) fun Q0 q0 => ?_
           simp only [↓bO, go_sem, seval, hhw, hhp, ActT.cells, ActT.none, unqA, lineA]
           refine q0 _ ?_
           clear q0 Q0
           refine AAny_all1 (i := 7) (by kernel_rfl) ?_
           ·
            refine aAt_op rfl rfl fun Q0 q0 => ?_
            simp only [↓bO, go_sem, seval, hhw, hhp, ActT.cells, ActT.none, unqA, lineA]
            refine q0 _ ⟨trivial, ?_⟩
            clear q0 Q0
            refine AAny_done (by kernel_rfl) ?_
            simp only [thenQ, blockQ, noGotoQ]
            try simp only [maskL, setsL, putsO, putO, mB, List.set_cons_zero, List.set_cons_succ, seval]
            first | rw [hQ] | simp only [docQ, nV, nF, nM, hqq, Int.reduceEq, Nat.reduceLT, ↓reduceIte]
            exact Weak.mk (by simp only [go_sem, Le.refl, Le.any]) (fun _ _ h => h) rfl rfl
       ·
        refine aAt_op rfl rfl fun Q0 q0 => ?_
        simp only [↓bO, go_sem, seval, hhw, hhp, ActT.cells, ActT.none, unqA, lineA]
        refine q0 _ ⟨trivial, ?_⟩
        clear q0 Q0
        refine AAny_all2 (i := 1) (j := 3) (by kernel_rfl) ?_ ?_
        ·
         refine aAt_op rfl rfl fun Q0 q0 => ?_
         simp only [↓bO, go_sem, seval, hhw, hhp, ActT.cells, ActT.none, unqA, lineA]
         refine q0 _ ⟨trivial, ?_⟩
         clear q0 Q0
         refine AAny_takeK 4 rfl (by kernel_rfl) (by kernel_rfl) (by kernel_rfl) (fun _ _ h => h) fun Q0 q0 => ?_
         simp only [↓bO, go_sem, seval, hhw, hhp, ActT.cells, ActT.none, unqA, lineA]
         refine q0 _ ?_
         clear q0 Q0
         refine AAny_all2 (i := 3) (j := 5) (by kernel_rfl) ?_ ?_
         ·
          refine aAt_op rfl rfl fun Q0 q0 => ?_
          simp only [↓bO, go_sem, seval, hhw, hhp, ActT.cells, ActT.none, unqA, lineA]
          refine q0 _ ⟨trivial, ?_⟩
          clear q0 Q0
          refine AAny_all1 (i := 5) (by kernel_rfl) ?_
          ·
           refine aAt_op rfl rfl fun Q0 q0 => ?_
           simp only [↓bO, go_sem, seval, hhw, hhp, ActT.cells, ActT.none, unqA, lineA]
           refine q0 _ ⟨trivial, ?_⟩
           clear q0 Q0
           refine AAny_takeK 6 rfl (by kernel_rfl) (by kernel_rfl) (by kernel_rfl) (fun _ _ h => h) fun Q0 q0 => ?_
           simp only [↓bO, go_sem, seval, hhw, hhp, ActT.cells, ActT.none, unqA, lineA]
           refine q0 _ ?_
           clear q0 Q0
           refine AAny_all1 (i := 7) (by kernel_rfl) ?_
           ·
            refine aAt_op rfl rfl fun Q0 q0 => ?_
            simp only [↓bO, go_sem, seval, hhw, hhp, ActT.cells, ActT.none, unqA, lineA]
            refine q0 _ ⟨trivial, ?_⟩
            clear q0 Q0
            refine AAny_done (by kernel_rfl) ?_
            simp only [thenQ, blockQ, noGotoQ]
            try simp only [maskL, setsL, putsO, putO, mB, List.set_cons_zero, List.set_cons_succ, seval]
            first | rw [hQ] | simp only [docQ, nV, nF, nM, hqq, Int.reduceEq, Nat.reduceLT, ↓reduceIte]
            exact Weak.mk (by simp only [go_sem, Le.refl, Le.any]) (fun _ _ h => h) rfl rfl
         ·
          refine aAt_op rfl rfl fun Q0 q0 => ?_
          simp only [↓bO, go_sem, seval, hhw, hhp, ActT.cells, ActT.none, unqA, lineA]
          refine q0 _ ⟨trivial, ?_⟩
          clear q0 Q0
          refine AAny_all1 (i := 3) (by kernel_rfl) ?_
          ·
           refine aAt_op rfl rfl fun Q0 q0 => ?_
           simp only [↓bO, go_sem, seval, hhw, hhp, ActT.cells, ActT.none, unqA, lineA]
           refine q0 _ ⟨trivial, ?_⟩
           clear q0 Q0
           refine AAny_takeK 6 rfl (by kernel_rfl) (by kernel_rfl) (by kernel_rfl) (fun _ _ h => h) fun Q0 q0 => ?_
           simp only [↓bO, go_sem, seval, hhw, hhp, ActT.cells, ActT.none, unqA, lineA]
           refine q0 _ ?_
           clear q0 Q0
           refine AAny_all1 (i := 7) (by kernel_rfl) ?_
           ·
            refine aAt_op rfl rfl fun Q0 q0 => ?_
            simp only [↓bO, go_sem, seval, hhw, hhp, ActT.cells, ActT.none, unqA, lineA]
            refine q0 _ ⟨trivial, ?_⟩
            clear q0 Q0
            refine AAny_done (by kernel_rfl) ?_
            simp only [thenQ, blockQ, noGotoQ]
            try simp only [maskL, setsL, putsO, putO, mB, List.set_cons_zero, List.set_cons_succ, seval]
            first | rw [hQ] | simp only [docQ, nV, nF, nM, hqq, Int.reduceEq, Nat.reduceLT, ↓reduceIte]
            exact Weak.mk (by simp only [go_sem, Le.refl, Le.any]) (fun _ _ h => h) rfl rfl
        ·
         refine aAt_op rfl rfl fun Q0 q0 => ?_
         simp only [↓bO, go_sem, seval, hhw, hhp, ActT.cells, ActT.none, unqA, lineA]
         refine q0 _ ⟨trivial, ?_⟩
         clear q0 Q0
         refine AAny_all1 (i := 1) (by kernel_rfl) ?_
         ·
          refine aAt_op rfl rfl fun Q0 q0 => ?_
          simp only [↓bO, go_sem, seval, hhw, hhp, ActT.cells, ActT.none, unqA, lineA]
          refine q0 _ ⟨trivial, ?_⟩
          clear q0 Q0
          refine AAny_takeK 4 rfl (by kernel_rfl) (by kernel_rfl) (by kernel_rfl) (fun _ _ h => h) fun Q0 q0 => ?_
          simp only [↓bO, go_sem, seval, hhw, hhp, ActT.cells, ActT.none, unqA, lineA]
          refine q0 _ ?_
          clear q0 Q0
          refine AAny_all1 (i := 5) (by kernel_rfl) ?_
          ·
           refine aAt_op rfl rfl fun Q0 q0 => ?_
           simp only [↓bO, go_sem, seval, hhw, hhp, ActT.cells, ActT.none, unqA, lineA]
           refine q0 _ ⟨trivial, ?_⟩
           clear q0 Q0
           refine AAny_takeK 6 rfl (by kernel_rfl) (by kernel_rfl) (by kernel_rfl) (fun _ _ h => h) fun Q0 q0 => ?_
           simp only [↓bO, go_sem, seval, hhw, hhp, ActT.cells, ActT.none, unqA, lineA]
           refine q0 _ ?_
           clear q0 Q0
           refine AAny_all1 (i := 7) (by kernel_rfl) ?_
           ·
            refine aAt_op rfl rfl fun Q0 q0 => ?_
            simp only [↓bO, go_sem, seval, hhw, hhp, ActT.cells, ActT.none, unqA, lineA]
            refine q0 _ ⟨trivial, ?_⟩
            clear q0 Q0
            refine AAny_done (by kernel_rfl) ?_
            simp only [thenQ, blockQ, noGotoQ]
            try simp only [maskL, setsL, putsO, putO, mB, List.set_cons_zero, List.set_cons_succ, seval]
            first | rw [hQ] | simp only [docQ, nV, nF, nM, hqq, Int.reduceEq, Nat.reduceLT, ↓reduceIte]
            exact Weak.mk (by simp only [go_sem, Le.refl, Le.any]) (fun _ _ h => h) rfl rfl
      ·
       refine aAt_op rfl rfl fun Q0 q0 => ?_
       simp only [↓bO, go_sem, seval, hhw, hhp, ActT.cells, ActT.none, unqA, lineA]
       refine q0 _ ⟨trivial, ?_⟩
       clear q0 Q0
       refine AAny_all2 (i := 0) (j := 3) (by kernel_rfl) ?_ ?_
       ·
        refine aAt_op rfl rfl fun Q0 q0 => ?_
        simp only [↓bO, go_sem, seval, hhw, hhp, ActT.cells, ActT.none, unqA, lineA]
        refine q0 _ ⟨trivial, ?_⟩
        clear q0 Q0
        refine AAny_all2 (i := 1) (j := 3) (by kernel_rfl) ?_ ?_
        ·
         refine aAt_op rfl rfl fun Q0 q0 => ?_
         simp only [↓bO, go_sem, seval, hhw, hhp, ActT.cells, ActT.none, unqA, lineA]
         refine q0 _ ⟨trivial, ?_⟩
         clear q0 Q0
         refine AAny_takeK 4 rfl (by kernel_rfl) (by kernel_rfl) (by kernel_rfl) (fun _ _ h => h) fun Q0 q0 => ?_
         simp only [↓bO, go_sem, seval, hhw, hhp, ActT.cells, ActT.none, unqA, lineA]
         refine q0 _ ?_
         clear q0 Q0
         refine AAny_all2 (i := 3) (j := 5) (by kernel_rfl) ?_ ?_
         ·
          refine aAt_op rfl rfl fun Q0 q0 => ?_
          simp only [↓bO, go_sem, seval, hhw, hhp, ActT.cells, ActT.none, unqA, lineA]
          refine q0 _ ⟨trivial, ?_⟩
          clear q0 Q0
          refine AAny_all1 (i := 5) (by kernel_rfl) ?_
          ·
           refine aAt_op rfl rfl fun Q0 q0 => ?_
           simp only [↓bO, go_sem, seval, hhw, hhp, ActT.cells, ActT.none, unqA, lineA]
           refine q0 _ ⟨trivial, ?_⟩
           clear q0 Q0
           refine AAny_takeK 6 rfl (by kernel_rfl) (by kernel_rfl) (by kernel_rfl) (fun _ _ h => h) fun Q0 q0 => ?_
           simp only [↓bO, go_sem, seval, hhw, hhp, ActT.cells, ActT.none, unqA, lineA]
           refine q0 _ ?_
           clear q0 Q0
           refine AAny_all1 (i := 7) (by kernel_rfl) ?_
           ·
            refine aAt_op rfl rfl fun Q0 q0 => ?_
            simp only [↓bO, go_sem, seval, hhw, hhp, ActT.cells, ActT.none, unqA, lineA]
            refine q0 _ ⟨trivial, ?_⟩
            clear q0 Q0
            refine AAny_done (by kernel_rfl) ?_
            simp only [thenQ, blockQ, noGotoQ]
            try simp only [maskL, setsL, putsO, putO, mB, List.set_cons_zero, List.set_cons_succ, seval]
            first | rw [hQ] | simp only [docQ, nV, nF, nM, hqq, Int.reduceEq, Nat.reduceLT, ↓reduceIte]
            exact Weak.mk (by simp only [go_sem, Le.refl, Le.any]) (fun _ _ h => h) rfl rfl
         ·
          refine aAt_op rfl rfl fun Q0 q0 => ?_
          simp only [↓bO, go_sem, seval, hhw, hhp, ActT.cells, ActT.none, unqA, lineA]
          refine q0 _ ⟨trivial, ?_⟩
          clear q0 Q0
          refine AAny_all1 (i := 3) (by kernel_rfl) ?_
          ·
           refine aAt_op rfl rfl fun Q0 q0 => ?_
           simp only [↓bO, go_sem, seval, hhw, hhp, ActT.cells, ActT.none, unqA, lineA]
           refine q0 _ ⟨trivial, ?_⟩
           clear q0 Q0
           refine AAny_takeK 6 rfl (by kernel_rfl) (by kernel_rfl) (by kernel_rfl) (fun _ _ h => h) fun Q0 q0 => ?_
           simp only [↓bO, go_sem, seval, hhw, hhp, ActT.cells, ActT.none, unqA, lineA]
           refine q0 _ ?_
           clear q0 Q0
           refine AAny_all1 (i := 7) (by kernel_rfl) ?_
           ·
            refine aAt_op rfl rfl fun Q0 q0 => ?_
            simp only [↓bO, go_sem, seval, hhw, hhp, ActT.cells, ActT.none, unqA, lineA]
            refine q0 _ ⟨trivial, ?_⟩
            clear q0 Q0
            refine AAny_done (by kernel_rfl) ?_
            simp only [thenQ, blockQ, noGotoQ]
            try simp only [maskL, setsL, putsO, putO, mB, List.set_cons_zero, List.set_cons_succ, seval]
            first | rw [hQ] | simp only [docQ, nV, nF, nM, hqq, Int.reduceEq, Nat.reduceLT, ↓reduceIte]
            exact Weak.mk (by simp only [go_sem, Le.refl, Le.any]) (fun _ _ h => h) rfl rfl
        ·
         refine aAt_op rfl rfl fun Q0 q0 => ?_
         simp only [↓bO, go_sem, seval, hhw, hhp, ActT.cells, ActT.none, unqA, lineA]
         refine q0 _ ⟨trivial, ?_⟩
         clear q0 Q0
         refine AAny_all1 (i := 1) (by kernel_rfl) ?_
         ·
          refine aAt_op rfl rfl fun Q0 q0 => ?_
          simp only [↓bO, go_sem, seval, hhw, hhp, ActT.cells, ActT.none, unqA, lineA]
          refine q0 _ ⟨trivial, ?_⟩
          clear q0 Q0
          refine AAny_takeK 4 rfl (by kernel_rfl) (by kernel_rfl) (by kernel_rfl) (fun _ _ h => h) fun Q0 q0 => ?_
          simp only [↓bO, go_sem, seval, hhw, hhp, ActT.cells, ActT.none, unqA, lineA]
          refine q0 _ ?_
          clear q0 Q0
          refine AAny_all1 (i := 5) (by kernel_rfl) ?_
          ·
           refine aAt_op rfl rfl fun Q0 q0 => ?_
           simp only [↓bO, go_sem, seval, hhw, hhp, ActT.cells, ActT.none, unqA, lineA]
           refine q0 _ ⟨trivial, ?_⟩
           clear q0 Q0
           refine AAny_takeK 6 rfl (by kernel_rfl) (by kernel_rfl) (by kernel_rfl) (fun _ _ h => h) fun Q0 q0 => ?_
           simp only [↓bO, go_sem, seval, hhw, hhp, ActT.cells, ActT.none, unqA, lineA]
           refine q0 _ ?_
           clear q0 Q0
           refine AAny_all1 (i := 7) (by kernel_rfl) ?_
           ·
            refine aAt_op rfl rfl fun Q0 q0 => ?_
            simp only [↓bO, go_sem, seval, hhw, hhp, ActT.cells, ActT.none, unqA, lineA]
            refine q0 _ ⟨trivial, ?_⟩
            clear q0 Q0
            refine AAny_done (by kernel_rfl) ?_
            simp only [thenQ, blockQ, noGotoQ]
            try simp only [maskL, setsL, putsO, putO, mB, List.set_cons_zero, List.set_cons_succ, seval]
            first | rw [hQ] | simp only [docQ, nV, nF, nM, hqq, Int.reduceEq, Nat.reduceLT, ↓reduceIte]
            exact Weak.mk (by simp only [go_sem, Le.refl, Le.any]) (fun _ _ h => h) rfl rfl
       ·
        refine aAt_op rfl rfl fun Q0 q0 => ?_
        simp only [↓bO, go_sem, seval, hhw, hhp, ActT.cells, ActT.none, unqA, lineA]
        refine q0 _ ⟨trivial, ?_⟩
        clear q0 Q0
        refine AAny_all1 (i := 0) (by kernel_rfl) ?_
        ·
         refine aAt_op rfl rfl fun Q0 q0 => ?_
         simp only [↓bO, go_sem, seval, hhw, hhp, ActT.cells, ActT.none, unqA, lineA]
         refine q0 _ ⟨trivial, ?_⟩
         clear q0 Q0
         refine AAny_all1 (i := 1) (by kernel_rfl) ?_
         ·
          refine aAt_op rfl rfl fun Q0 q0 => ?_
          simp only [↓bO, go_sem, seval, hhw, hhp, ActT.cells, ActT.none, unqA, lineA]
          refine q0 _ ⟨trivial, ?_⟩
          clear q0 Q0
          refine AAny_takeK 4 rfl (by kernel_rfl) (by kernel_rfl) (by kernel_rfl) (fun _ _ h => h) fun Q0 q0 => ?_
          simp only [↓bO, go_sem, seval, hhw, hhp, ActT.cells, ActT.none, unqA, lineA]
          refine q0 _ ?_
          clear q0 Q0
          refine AAny_all1 (i := 5) (by kernel_rfl) ?_
          ·
           refine aAt_op rfl rfl fun Q0 q0 => ?_
           simp only [↓bO, go_sem, seval, hhw, hhp, ActT.cells, ActT.none, unqA, lineA]
           refine q0 _ ⟨trivial, ?_⟩
           clear q0 Q0
           refine AAny_takeK 6 rfl (by kernel_rfl) (by kernel_rfl) (by kernel_rfl) (fun _ _ h => h) fun Q0 q0 => ?_
           simp only [↓bO, go_sem, seval, hhw, hhp, ActT.cells, ActT.none, unqA, lineA]
           refine q0 _ ?_
           clear q0 Q0
           refine AAny_all1 (i := 7) (by kernel_rfl) ?_
           ·
            refine aAt_op rfl rfl fun Q0 q0 => ?_
            simp only [↓bO, go_sem, seval, hhw, hhp, ActT.cells, ActT.none, unqA, lineA]
            refine q0 _ ⟨trivial, ?_⟩
            clear q0 Q0
            refine AAny_done (by kernel_rfl) ?_
            simp only [thenQ, blockQ, noGotoQ]
            try simp only [maskL, setsL, putsO, putO, mB, List.set_cons_zero, List.set_cons_succ, seval]
            first | rw [hQ] | simp only [docQ, nV, nF, nM, hqq, Int.reduceEq, Nat.reduceLT, ↓reduceIte]
            exact Weak.mk (by simp only [go_sem, Le.refl, Le.any]) (fun _ _ h => h) rfl rfl
     ·
      have hq2 : ¬ kindOf (cutW s) = 2 := (by have h9 := hb136; simp at h9; omega)
      refine AWp_seqK fun Y0 y0 => ?_
      refine AWp_region ?_
      refine aops_chunk 1 fun Q0 q0 => ?_
      simp only [↓bO, go_sem, seval, hhw, hhp, ActT.cells, ActT.none, unqA, lineA]
      refine q0 _ ?_
      clear q0 Q0
      simp only [go_sem]
      simp only [↓bO, go_sem, seval, hhw, hhp, ActT.cells, ActT.none, unqA, lineA]
      refine y0 _ ?_
      try clear y0 Y0
      refine AWp_cond rfl (fun hb144 => ?_) (fun hb144 => ?_)
      ·
       have hq5 : kindOf (cutW s) = 5 := (by have h9 := hb144; simp at h9; omega)
       have hqq := hq5
       have hQ : (docQ (kindOf (cutW s)) (docW s (kindOf (cutW s)))).cells = [.v (.int .i64 (kindOf (cutW s))), .v (.string (if kindOf (cutW s) < 6 then wAt (docW s (kindOf (cutW s))) 1 else ByteArray.empty)), .v (.int .i64 (0)), .v (.int .i64 (0)), .v (.string (if kindOf (cutW s) < 3 then unqS (wAt (docW s (kindOf (cutW s))) ((docW s (kindOf (cutW s))).length - 1)) else ByteArray.empty)), .v (.int .i64 (nV (docW s (kindOf (cutW s))) (nF (kindOf (cutW s))) (nM (kindOf (cutW s))) 0)), .v (.int .i64 (0)), .v (.int .i64 (0)), .v (.int .i64 (0))] := by (simp only [docQ, ActT.cells, if_neg hq2, if_pos hq5, if_neg (show ¬ kindOf (cutW s) = 6 by omega)]; simp only [nV, nF, nM, if_neg hq2, if_pos hq5]; rfl)
       refine AWp_region ?_
       iterate 3 (refine aops_chunk 1 fun Q0 q0 => ?_; simp only [↓bO, go_sem, seval, hhw, hhp, ActT.cells, ActT.none, unqA, lineA]; refine q0 _ ?_; clear q0 Q0; simp only [go_sem])
       simp only [↓bO, go_sem, seval, hhw, hhp, ActT.cells, ActT.none, unqA, lineA]
       try simp only [maskL, setsL, putsO, putO, mB, List.set_cons_zero, List.set_cons_succ, seval]
       first | rw [hQ] | simp only [docQ, nV, nF, nM, hqq, Int.reduceEq, Nat.reduceLT, ↓reduceIte]
       exact Weak.mk (by simp only [go_sem, Le.refl, Le.any]) (fun _ _ h => h) rfl rfl
      ·
       have hq5 : ¬ kindOf (cutW s) = 5 := (by have h9 := hb144; simp at h9; omega)
       refine AWp_seqK fun Y0 y0 => ?_
       refine AWp_region ?_
       refine aops_chunk 1 fun Q0 q0 => ?_
       simp only [↓bO, go_sem, seval, hhw, hhp, ActT.cells, ActT.none, unqA, lineA]
       refine q0 _ ?_
       clear q0 Q0
       simp only [go_sem]
       simp only [↓bO, go_sem, seval, hhw, hhp, ActT.cells, ActT.none, unqA, lineA]
       refine y0 _ ?_
       try clear y0 Y0
       refine AWp_cond rfl (fun hb149 => ?_) (fun hb149 => ?_)
       ·
        have hq6 : kindOf (cutW s) = 6 := (by have h9 := hb149; simp at h9; omega)
        have hqq := hq6
        have hQ : (docQ (kindOf (cutW s)) (docW s (kindOf (cutW s)))).cells = [.v (.int .i64 (kindOf (cutW s))), .v (.string (if kindOf (cutW s) < 6 then wAt (docW s (kindOf (cutW s))) 1 else ByteArray.empty)), .v (.int .i64 (0)), .v (.int .i64 (0)), .v (.string (if kindOf (cutW s) < 3 then unqS (wAt (docW s (kindOf (cutW s))) ((docW s (kindOf (cutW s))).length - 1)) else ByteArray.empty)), .v (.int .i64 (0)), .v (.int .i64 (nV (docW s (kindOf (cutW s))) (nF (kindOf (cutW s))) (nM (kindOf (cutW s))) 0)), .v (.int .i64 (nV (docW s (kindOf (cutW s))) (nF (kindOf (cutW s))) (nM (kindOf (cutW s))) 1)), .v (.int .i64 (nV (docW s (kindOf (cutW s))) (nF (kindOf (cutW s))) (nM (kindOf (cutW s))) 2))] := by (simp only [docQ, ActT.cells, if_neg hq2, if_neg hq5, if_pos hq6]; simp only [nV, nF, nM, if_neg hq2, if_neg hq5, if_pos hq6]; rfl)
        refine AWp_region ?_
        iterate 8 (refine aops_chunk 1 fun Q0 q0 => ?_; simp only [↓bO, go_sem, seval, hhw, hhp, ActT.cells, ActT.none, unqA, lineA]; refine q0 _ ?_; clear q0 Q0; simp only [go_sem])
        simp only [↓bO, go_sem, seval, hhw, hhp, ActT.cells, ActT.none, unqA, lineA]
        try simp only [maskL, setsL, putsO, putO, mB, List.set_cons_zero, List.set_cons_succ, seval]
        first | rw [hQ] | simp only [docQ, nV, nF, nM, hqq, Int.reduceEq, Nat.reduceLT, ↓reduceIte]
        exact Weak.mk (by simp only [go_sem, Le.refl, Le.any]) (fun _ _ h => h) rfl rfl
       ·
        have hq6 : ¬ kindOf (cutW s) = 6 := (by have h9 := hb149; simp at h9; omega)
        have hQ : (docQ (kindOf (cutW s)) (docW s (kindOf (cutW s)))).cells = [.v (.int .i64 (kindOf (cutW s))), .v (.string (if kindOf (cutW s) < 6 then wAt (docW s (kindOf (cutW s))) 1 else ByteArray.empty)), .v (.int .i64 (0)), .v (.int .i64 (0)), .v (.string (if kindOf (cutW s) < 3 then unqS (wAt (docW s (kindOf (cutW s))) ((docW s (kindOf (cutW s))).length - 1)) else ByteArray.empty)), .v (.int .i64 (0)), .v (.int .i64 (0)), .v (.int .i64 (0)), .v (.int .i64 (0))] := by (simp only [docQ, ActT.cells, if_neg hq2, if_neg hq5, if_neg hq6]; try rfl)
        refine AWp_skip ?_
        try simp only [thenQ, blockQ, noGotoQ]
        try simp only [maskL, setsL, putsO, putO, mB, List.set_cons_zero, List.set_cons_succ, seval]
        first | rw [hQ] | simp only [docQ, nV, nF, nM, hqq, Int.reduceEq, Nat.reduceLT, ↓reduceIte]
        exact Weak.mk (by simp only [go_sem, Le.refl, Le.any]) (fun _ _ h => h) rfl rfl
    simp only [maskL, setsL, putsO, putO, mB, List.set_cons_zero, List.set_cons_succ, seval]
    have hqs := docQ_sz s (kindOf (cutW s))
    have hiff := doc_iff hkn hg1
    refine AWp_seqK fun Y0 y0 => ?_
    refine AWp_seqK fun Y1 y1 => ?_
    refine AWp_region ?_
    refine aops_chunk 1 fun Q0 q0 => ?_
    simp only [↓bO, go_sem, seval, hhw, hhp, ActT.cells, ActT.none, unqA, lineA]
    refine q0 _ ?_
    clear q0 Q0
    simp only [go_sem]
    refine aops_chunk 1 fun Q0 q0 => ?_
    simp only [↓bO, go_sem, seval, hhw, hhp, ActT.cells, ActT.none, unqA, lineA]
    refine APure.call (RLine_pure (docQ (kindOf (cutW s)) (docW s (kindOf (cutW s)))) (docQ_fits _ _) (by have := hqs.1; omega) (by have := hqs.2; omega)) ?_
    try simp only [bS, bA, thenQ, blockQ, noGotoQ]
    refine q0 _ ?_
    clear q0 Q0
    simp only [go_sem]
    refine aops_chunk 1 fun Q0 q0 => ?_
    simp only [↓bO, go_sem, seval, hhw, hhp, ActT.cells, ActT.none, unqA, lineA]
    iterate 2 (refine q0 _ ?_; clear q0 Q0; simp only [go_sem]; refine aops_chunk 1 fun Q0 q0 => ?_; simp only [↓bO, go_sem, seval, aExtract_tup, hhw, hhp, ActT.cells, ActT.none, unqA, lineA])
    refine q0 _ ?_
    clear q0 Q0
    simp only [go_sem]
    refine aops_chunk 1 fun Q0 q0 => ?_
    simp only [↓bO, go_sem, seval, hhw, hhp, ActT.cells, ActT.none, unqA, lineA]
    refine q0 _ ?_
    clear q0 Q0
    simp only [go_sem]
    simp only [↓bO, go_sem, seval, hhw, hhp, ActT.cells, ActT.none, unqA, lineA]
    refine y1 _ ?_
    try clear y1 Y1
    refine AWp_seqK fun Y1 y1 => ?_
    refine AWp_region ?_
    iterate 3 (refine aops_chunk 1 fun Q0 q0 => ?_; simp only [↓bO, go_sem, seval, hhw, hhp, ActT.cells, ActT.none, unqA, lineA]; refine q0 _ ?_; clear q0 Q0; simp only [go_sem])
    refine aops_case 166 rfl (fun hc166 => ?_) (fun hc166 => ?_)
    ·
     simp only [List.set_cons_zero, List.set_cons_succ]
     have hb : (docG2 (kindOf (cutW s)) (docW s (kindOf (cutW s))) && docG3 (kindOf (cutW s)) (docW s (kindOf (cutW s)))) = false := by (have h9 := hc166; simpa only [Bool.not_eq_true'] using h9)
     have hno := doc_bad (s := s) (fun h => by rw [(hiff.1 h).1] at hb; cases hb)
     iterate 2 (refine aops_chunk 1 fun Q0 q0 => ?_; simp only [↓bO, go_sem, seval, hhw, hhp, ActT.cells, ActT.none, unqA, lineA]; refine q0 _ ?_; clear q0 Q0; simp only [go_sem])
     simp only [↓bO, go_sem, seval, hhw, hhp, ActT.cells, ActT.none, unqA, lineA]
     refine y1 _ ?_
     try clear y1 Y1
     refine AWp_cond (b := true) (by first | exact rfl | exact congrArg (fun b => AV.v (.bool b)) hb169) (fun _ => ?_) (fun h => (by cases h))
     refine AWp_seqK fun Y1 y1 => ?_
     refine AWp_region ?_
     iterate 2 (refine aops_chunk 1 fun Q0 q0 => ?_; simp only [↓bO, go_sem, seval, hhw, hhp, ActT.cells, ActT.none, unqA, lineA]; refine q0 _ ?_; clear q0 Q0; simp only [go_sem])
     simp only [↓bO, go_sem, seval, hhw, hhp, ActT.cells, ActT.none, unqA, lineA]
     refine y1 _ ?_
     try clear y1 Y1
     refine AWp_ret ?_
     try simp only [thenQ, blockQ, noGotoQ, retQ, aRes, tupOf, bS, bA, aLoad, getO, pack, bL, Nat.reduceAdd, Nat.reduceLeDiff, Nat.reduceEqDiff, ↓reduceIte, ti30, hhw, hhp, List.length_map, ActT.cells, ActT.none, unqA, lineA]
     rw [hno.1, hno.2]
     exact Le.refl _
    ·
     simp only [List.set_cons_zero, List.set_cons_succ]
     have hb : (docG2 (kindOf (cutW s)) (docW s (kindOf (cutW s))) && docG3 (kindOf (cutW s)) (docW s (kindOf (cutW s)))) = true := by (have h9 := hc166; simpa only [Bool.not_eq_false'] using h9)
     iterate 2 (refine aops_chunk 1 fun Q0 q0 => ?_; simp only [↓bO, go_sem, seval, hhw, hhp, ActT.cells, ActT.none, unqA, lineA]; refine q0 _ ?_; clear q0 Q0; simp only [go_sem])
     simp only [↓bO, go_sem, seval, hhw, hhp, ActT.cells, ActT.none, unqA, lineA]
     refine y1 _ ?_
     try clear y1 Y1
     refine AWp_cond rfl (fun hb169 => ?_) (fun hb169 => ?_)
     ·
      have hno := doc_bad (s := s) (fun h => by (have h9 := hb169; rw [(hiff.1 h).2] at h9; simp at h9))
      refine AWp_seqK fun Y1 y1 => ?_
      refine AWp_region ?_
      iterate 2 (refine aops_chunk 1 fun Q0 q0 => ?_; simp only [↓bO, go_sem, seval, hhw, hhp, ActT.cells, ActT.none, unqA, lineA]; refine q0 _ ?_; clear q0 Q0; simp only [go_sem])
      simp only [↓bO, go_sem, seval, hhw, hhp, ActT.cells, ActT.none, unqA, lineA]
      refine y1 _ ?_
      try clear y1 Y1
      refine AWp_ret ?_
      try simp only [thenQ, blockQ, noGotoQ, retQ, aRes, tupOf, bS, bA, aLoad, getO, pack, bL, Nat.reduceAdd, Nat.reduceLeDiff, Nat.reduceEqDiff, ↓reduceIte, ti30, hhw, hhp, List.length_map, ActT.cells, ActT.none, unqA, lineA]
      rw [hno.1, hno.2]
      exact Le.refl _
     ·
      have herr : (docQ (kindOf (cutW s)) (docW s (kindOf (cutW s)))).err = 0 := (by have h9 := hb169; simpa using h9)
      have hok := doc_good (hiff.2 ⟨hb, herr⟩)
      rw [docK_eq] at hok
      refine AWp_skip ?_
      try simp only [thenQ, blockQ, noGotoQ]
      refine y0 _ ?_
      try clear y0 Y0
      refine AWp_seqK fun Y0 y0 => ?_
      refine AWp_region ?_
      iterate 2 (refine aops_chunk 1 fun Q0 q0 => ?_; simp only [↓bO, go_sem, seval, hhw, hhp, ActT.cells, ActT.none, unqA, lineA]; refine q0 _ ?_; clear q0 Q0; simp only [go_sem])
      simp only [↓bO, go_sem, seval, hhw, hhp, ActT.cells, ActT.none, unqA, lineA]
      refine y0 _ ?_
      try clear y0 Y0
      refine AWp_ret ?_
      try simp only [thenQ, blockQ, noGotoQ, retQ, aRes, tupOf, bS, bA, aLoad, getO, pack, bL, Nat.reduceAdd, Nat.reduceLeDiff, Nat.reduceEqDiff, ↓reduceIte, ti30, hhw, hhp, List.length_map, ActT.cells, ActT.none, unqA, lineA]
      rw [hok.1, hok.2]
      exact Le.refl _
theorem dataActs (l : List ActT) : Data (.sl 9 (l.map ActT.cells)) := .sl fun x hx => by
  obtain ⟨a, _, rfl⟩ := List.mem_map.1 hx
  exact a.data
def gN (l : List ActT) : Nat → Int
  | 0 => 0
  | i + 1 => match l[i]? with
    | some a => IntKind.i64.wrap (IntKind.i64.wrap (gN l i + (a.name.size : Int)) + (a.text.size : Int))
    | none => gN l i
theorem gN_at {l : List ActT} {i : Nat} {a : ActT} (h : l[i]? = some a) : gN l (i + 1) = IntKind.i64.wrap (IntKind.i64.wrap (gN l i + (a.name.size : Int)) + (a.text.size : Int)) := by
  rw [gN, h]
def grB (l : List ActT) : Bool := decide (30 < l.length) || decide (gN l (min 40 l.length) > 2000)
theorem gr_le {l : List ActT} (h : grB l = false) : l.length ≤ 30 := by
  unfold grB at h
  simp only [Bool.or_eq_false_iff, decide_eq_false_iff_not] at h
  omega
instance decAct : DecidableEq ActT := fun a b => if h : a.eqB b = true then isTrue (ActT.eqB_iff.1 h) else isFalse fun e => h (ActT.eqB_iff.2 e)
def actsB (a b : List ActT) : Bool := decide (a = b)
theorem getD_act {l : List ActT} {i : Nat} {a : ActT} (h : l[i]? = some a) : (l.map ActT.cells).getD i [] = a.cells := getD_map_at h _
theorem great28_pure (l : List ActT) (hl : l.length ≤ 9223372036854775807) : APure Tryd.prog 17 [.sl 9 (l.map ActT.cells)] (.v (.bool (grB l))) := by
  refine APure.mkL (.cons (dataActs l) .nil) (.v _) ?_
  refine ACalls_intro Tryd.func17 (by kernel_rfl) rfl (by rw [Tryd.ntmps17]; simp) (fun hm => ?_)
  simp only [Tryd.ntmps17, Tryd.results17, List.length_cons, List.length_nil, Nat.reduceAdd, Nat.reduceSub, List.replicate_succ, List.replicate_zero, List.cons_append, List.nil_append]
  iterate 2 (refine AWp_seqK fun Y0 y0 => ?_; refine AWp_region ?_; simp only [↓bO, go_sem, seval, ActT.cells]; refine y0 _ ?_; (try clear y0 Y0))
  refine AWp_seqK fun Y0 y0 => ?_
  refine AWp_seqK fun Y1 y1 => ?_
  refine AWp_region ?_
  simp only [↓bO, go_sem, seval, ActT.cells]
  refine y1 _ ?_
  try clear y1 Y1
  refine AWp_block ?_
  refine AWp_loopM (σ := Nat) (mB 37 25) (fun i => i ≤ l.length ∧ i ≤ 40) (fun i => [(3, .v (.int .i64 (gN l i))), (4, .v (.int .i64 (i : Int)))]) (fun i => []) (fun i => l.length - i) 0 (⟨Nat.zero_le _, Nat.zero_le _⟩) ?_ (fun i hi => ?_)
  ·
   try simp only [maskL, setsL, putsO, putO, mB, List.set_cons_zero, List.set_cons_succ, seval, gN, Int.natCast_zero]
   exact Weak.mk (by simp only [go_sem, Le.refl, Le.any, Le.slNil, Int.natCast_add, Int.cast_ofNat_Int, Int.natCast_one]) (fun _ _ h => h) rfl rfl
  simp only [maskL, setsL, putsO, putO, mB, List.set_cons_zero, List.set_cons_succ, seval]
  have hw0 : IntKind.i64.wrap ((i : Int) + 1) = ((i + 1 : Nat) : Int) := by (rw [wrap_in (by omega) (by omega)]; omega)
  refine AWp_seqK fun Y1 y1 => ?_
  refine AWp_seqK fun Y2 y2 => ?_
  refine AWp_region ?_
  iterate 5 (refine aops_chunk 1 fun Q0 q0 => ?_; simp only [↓bO, go_sem, seval, ActT.cells, hw0]; refine q0 _ ?_; clear q0 Q0; simp only [go_sem])
  refine aops_case 9 rfl (fun hc9 => ?_) (fun hc9 => ?_)
  ·
   simp only [List.set_cons_zero, List.set_cons_succ]
   have hlt : i < l.length := (by have h9 := hc9; simpa using h9)
   obtain ⟨a, ha⟩ : ∃ a, l[i]? = some a := ⟨_, List.getElem?_eq_getElem hlt⟩
   have hga := getD_act ha
   have hgn := gN_at ha
   iterate 2 (refine aops_chunk 1 fun Q0 q0 => ?_; simp only [↓bO, go_sem, seval, ActT.cells, hw0, hlt, hga, hgn]; refine q0 _ ?_; clear q0 Q0; simp only [go_sem])
   simp only [↓bO, go_sem, seval, ActT.cells, hw0, hlt, hga, hgn]
   refine y2 _ ?_
   try clear y2 Y2
   refine AWp_cond rfl (fun hb12 => ?_) (fun hb12 => ?_)
   ·
    have h40 : i < 40 := (by have h9 := hb12; simp at h9; omega)
    refine AWp_skip ?_
    try simp only [thenQ, blockQ, noGotoQ]
    refine y1 _ ?_
    try clear y1 Y1
    refine AWp_seqK fun Y1 y1 => ?_
    refine AWp_block ?_
    refine AWp_drawK 15 mixed (by kernel_rfl) fun J0 j0 => ?_
    iterate 14 (simp only [go_sem]; refine dRun_chunk 1 fun Q0 q0 => ?_; simp only [↓dRun, ↓dOp, ↓bO, go_sem, seval, ActT.cells, hw0, hlt, hga, hgn]; refine q0 _ ?_; clear q0 Q0)
    simp only [go_sem]
    simp only [↓dRun, ↓dOp, ↓bO, go_sem, seval, ActT.cells, hw0, hlt, hga, hgn]
    refine j0 _ ?_
    clear j0 J0
    simp only [go_sem]
    simp only [↓bO, go_sem, seval, ActT.cells, hw0, hlt, hga, hgn]
    refine y1 _ ?_
    try clear y1 Y1
    refine AWp_region ?_
    iterate 2 (refine aops_chunk 1 fun Q0 q0 => ?_; simp only [↓bO, go_sem, seval, ActT.cells, hw0, hlt, hga, hgn]; refine q0 _ ?_; clear q0 Q0; simp only [go_sem])
    simp only [↓bO, go_sem, seval, ActT.cells, hw0, hlt, hga, hgn]
    refine ⟨(i + 1), ⟨by omega, by omega⟩, (by omega), ?_⟩
    try simp only [maskL, setsL, putsO, putO, mB, List.set_cons_zero, List.set_cons_succ, seval, hw0, ActT.cells, hlt, hga, hgn]
    exact Weak.mk (by simp only [go_sem, Le.refl, Le.any, Le.slNil, Int.natCast_add, Int.cast_ofNat_Int, Int.natCast_one]) (fun _ _ h => h) rfl rfl
   ·
    have hi2 : i = min 40 l.length := by (first | exact hi2 | (have h9 := hb12; simp at h9; omega))
    refine AWp_exit ?_
    simp only [thenQ, blockQ, noGotoQ, bA, Nat.reduceEqDiff, ↓reduceIte]
    refine y0 _ ?_
    try clear y0 Y0
    refine AWp_seqK fun Y0 y0 => ?_
    refine AWp_region ?_
    iterate 4 (refine aops_chunk 1 fun Q0 q0 => ?_; simp only [↓bO, go_sem, seval, ActT.cells, hlt, hga, hgn]; refine q0 _ ?_; clear q0 Q0; simp only [go_sem])
    refine aops_case 33 rfl (fun hc33 => ?_) (fun hc33 => ?_)
    ·
     simp only [List.set_cons_zero, List.set_cons_succ]
     have h30 : l.length > 30 := (by have h9 := hc33; simp at h9; omega)
     iterate 3 (refine aops_chunk 1 fun Q0 q0 => ?_; simp only [↓bO, go_sem, seval, ActT.cells, hlt, hga, hgn]; refine q0 _ ?_; clear q0 Q0; simp only [go_sem])
     simp only [↓bO, go_sem, seval, ActT.cells, hlt, hga, hgn]
     refine y0 _ ?_
     try clear y0 Y0
     refine AWp_ret ?_
     try simp only [thenQ, blockQ, noGotoQ, retQ, aRes, tupOf, bS, bA]
     refine Le.of_eq (congrArg (fun b => AV.v (.bool b)) ?_)
     unfold grB
     rw [← hi2]
     try simp only [hc33]
     grind
    ·
     simp only [List.set_cons_zero, List.set_cons_succ]
     have h30 : ¬ l.length > 30 := (by have h9 := hc33; simp at h9; omega)
     iterate 3 (refine aops_chunk 1 fun Q0 q0 => ?_; simp only [↓bO, go_sem, seval, ActT.cells, hlt, hga, hgn]; refine q0 _ ?_; clear q0 Q0; simp only [go_sem])
     simp only [↓bO, go_sem, seval, ActT.cells, hlt, hga, hgn]
     refine y0 _ ?_
     try clear y0 Y0
     refine AWp_ret ?_
     try simp only [thenQ, blockQ, noGotoQ, retQ, aRes, tupOf, bS, bA]
     refine Le.of_eq (congrArg (fun b => AV.v (.bool b)) ?_)
     unfold grB
     rw [← hi2]
     try simp only [hc33]
     grind
  ·
   simp only [List.set_cons_zero, List.set_cons_succ]
   have hge : ¬ i < l.length := (by have h9 := hc9; simpa using h9)
   have hi2 : i = min 40 l.length := by omega
   iterate 2 (refine aops_chunk 1 fun Q0 q0 => ?_; simp only [↓bO, go_sem, seval, ActT.cells]; refine q0 _ ?_; clear q0 Q0; simp only [go_sem])
   simp only [↓bO, go_sem, seval, ActT.cells]
   refine y2 _ ?_
   try clear y2 Y2
   refine AWp_cond (b := false) (by first | exact rfl | exact congrArg (fun b => AV.v (.bool b)) hb12) (fun h => (by cases h)) (fun _ => ?_)
   refine AWp_exit ?_
   simp only [thenQ, blockQ, noGotoQ, bA, Nat.reduceEqDiff, ↓reduceIte]
   refine y0 _ ?_
   try clear y0 Y0
   refine AWp_seqK fun Y0 y0 => ?_
   refine AWp_region ?_
   iterate 4 (refine aops_chunk 1 fun Q0 q0 => ?_; simp only [↓bO, go_sem, seval, ActT.cells]; refine q0 _ ?_; clear q0 Q0; simp only [go_sem])
   refine aops_case 33 rfl (fun hc33 => ?_) (fun hc33 => ?_)
   ·
    simp only [List.set_cons_zero, List.set_cons_succ]
    have h30 : l.length > 30 := (by have h9 := hc33; simp at h9; omega)
    iterate 3 (refine aops_chunk 1 fun Q0 q0 => ?_; simp only [↓bO, go_sem, seval, ActT.cells]; refine q0 _ ?_; clear q0 Q0; simp only [go_sem])
    simp only [↓bO, go_sem, seval, ActT.cells]
    refine y0 _ ?_
    try clear y0 Y0
    refine AWp_ret ?_
    try simp only [thenQ, blockQ, noGotoQ, retQ, aRes, tupOf, bS, bA]
    refine Le.of_eq (congrArg (fun b => AV.v (.bool b)) ?_)
    unfold grB
    rw [← hi2]
    try simp only [hc33]
    grind
   ·
    simp only [List.set_cons_zero, List.set_cons_succ]
    have h30 : ¬ l.length > 30 := (by have h9 := hc33; simp at h9; omega)
    iterate 3 (refine aops_chunk 1 fun Q0 q0 => ?_; simp only [↓bO, go_sem, seval, ActT.cells]; refine q0 _ ?_; clear q0 Q0; simp only [go_sem])
    simp only [↓bO, go_sem, seval, ActT.cells]
    refine y0 _ ?_
    try clear y0 Y0
    refine AWp_ret ?_
    try simp only [thenQ, blockQ, noGotoQ, retQ, aRes, tupOf, bS, bA]
    refine Le.of_eq (congrArg (fun b => AV.v (.bool b)) ?_)
    unfold grB
    rw [← hi2]
    try simp only [hc33]
    grind
theorem same28_pure (a b : List ActT) (ha0 : a.length ≤ 9223372036854775806) (hb0 : b.length ≤ 9223372036854775806) : APure Tryd.prog 22 [.sl 9 (a.map ActT.cells), .sl 9 (b.map ActT.cells)] (.v (.bool (actsB a b))) := by
  refine APure.mkL (.cons (dataActs a) (.cons (dataActs b) .nil)) (.v _) ?_
  refine ACalls_intro Tryd.func22 (by kernel_rfl) rfl (by rw [Tryd.ntmps22]; simp) (fun hm => ?_)
  simp only [Tryd.ntmps22, Tryd.results22, List.length_cons, List.length_nil, Nat.reduceAdd, Nat.reduceSub, List.replicate_succ, List.replicate_zero, List.cons_append, List.nil_append]
  refine AWp_seqK fun Y0 y0 => ?_
  refine AWp_region ?_
  simp only [↓bO, go_sem, seval, ActT.cells]
  refine y0 _ ?_
  try clear y0 Y0
  refine AWp_seqK fun Y0 y0 => ?_
  refine AWp_seqK fun Y1 y1 => ?_
  refine AWp_region ?_
  iterate 4 (refine aops_chunk 1 fun Q0 q0 => ?_; simp only [↓bO, go_sem, seval, ActT.cells]; refine q0 _ ?_; clear q0 Q0; simp only [go_sem])
  simp only [↓bO, go_sem, seval, ActT.cells]
  refine y1 _ ?_
  try clear y1 Y1
  refine AWp_cond rfl (fun hb10 => ?_) (fun hb10 => ?_)
  ·
   have hne : ¬ a.length = b.length := (by have h9 := hb10; simp at h9; omega)
   refine AWp_seqK fun Y1 y1 => ?_
   refine AWp_region ?_
   simp only [↓bO, go_sem, seval, ActT.cells]
   refine y1 _ ?_
   try clear y1 Y1
   refine AWp_ret ?_
   try simp only [thenQ, blockQ, noGotoQ, retQ, aRes, tupOf, bS, bA]
   refine Le.of_eq (congrArg (fun b => AV.v (.bool b)) ?_)
   exact (decide_eq_false fun e => hne (congrArg List.length e)).symm
  ·
   have hel : a.length = b.length := (by have h9 := hb10; simp at h9; omega)
   refine AWp_skip ?_
   try simp only [thenQ, blockQ, noGotoQ]
   refine y0 _ ?_
   try clear y0 Y0
   refine AWp_seqK fun Y0 y0 => ?_
   refine AWp_seqK fun Y1 y1 => ?_
   refine AWp_region ?_
   simp only [↓bO, go_sem, seval, ActT.cells]
   refine y1 _ ?_
   try clear y1 Y1
   refine AWp_block ?_
   refine AWp_loopM (σ := Nat) (mB 26 35) (fun i => i ≤ a.length ∧ a.take i = b.take i) (fun i => [(5, .v (.int .i64 (i : Int)))]) (fun i => []) (fun i => a.length - i) 0 (⟨Nat.zero_le _, rfl⟩) ?_ (fun i hi => ?_)
   ·
    try simp only [maskL, setsL, putsO, putO, mB, List.set_cons_zero, List.set_cons_succ, seval, Int.natCast_zero]
    exact Weak.mk (by simp only [go_sem, Le.refl, Le.any, Le.slNil, Int.natCast_add, Int.cast_ofNat_Int, Int.natCast_one]) (fun _ _ h => h) rfl rfl
   simp only [maskL, setsL, putsO, putO, mB, List.set_cons_zero, List.set_cons_succ, seval]
   have hii := hi.1
   have hw0 : IntKind.i64.wrap ((i : Int) + 1) = ((i + 1 : Nat) : Int) := by (rw [wrap_in (by omega) (by omega)]; omega)
   refine AWp_seqK fun Y1 y1 => ?_
   refine AWp_seqK fun Y2 y2 => ?_
   refine AWp_region ?_
   iterate 3 (refine aops_chunk 1 fun Q0 q0 => ?_; simp only [↓bO, go_sem, seval, ActT.cells, hw0]; refine q0 _ ?_; clear q0 Q0; simp only [go_sem])
   simp only [↓bO, go_sem, seval, ActT.cells, hw0]
   refine y2 _ ?_
   try clear y2 Y2
   refine AWp_cond rfl (fun hb14 => ?_) (fun hb14 => ?_)
   ·
    have hlt : i < a.length := (by have h9 := hb14; simpa using h9)
    have hlt2 : i < b.length := by omega
    obtain ⟨x, hx⟩ : ∃ x, a[i]? = some x := ⟨_, List.getElem?_eq_getElem hlt⟩
    obtain ⟨y, hy⟩ : ∃ y, b[i]? = some y := ⟨_, List.getElem?_eq_getElem hlt2⟩
    have hgx := getD_act hx
    have hgy := getD_act hy
    have hfold : (x.k == y.k && (x.name.toList == y.name.toList && (x.p1 == y.p1 && (x.p2 == y.p2 && (x.text.toList == y.text.toList && (x.n == y.n && (x.lb == y.lb && (x.ld == y.ld && x.le == y.le)))))))) = x.eqB y := rfl
    refine AWp_skip ?_
    try simp only [thenQ, blockQ, noGotoQ]
    refine y1 _ ?_
    try clear y1 Y1
    refine AWp_seqK fun Y1 y1 => ?_
    refine AWp_block ?_
    refine AWp_seqK fun Y2 y2 => ?_
    refine AWp_drawK 9 mixed (by kernel_rfl) fun J0 j0 => ?_
    iterate 8 (simp only [go_sem]; refine dRun_chunk 1 fun Q0 q0 => ?_; simp only [↓dRun, ↓dOp, ↓bO, go_sem, seval, ActT.cells, hw0, hlt, hlt2, hgx, hgy, hfold]; refine q0 _ ?_; clear q0 Q0)
    simp only [go_sem]
    simp only [↓dRun, ↓dOp, ↓bO, go_sem, seval, i2t30, aEq2, eqt30, ActT.cells, hw0, hlt, hlt2, hgx, hgy, hfold]
    refine j0 _ ?_
    clear j0 J0
    simp only [bL, aops, thenQ, blockQ, noGotoQ]
    refine y2 _ ?_
    try clear y2 Y2
    refine AWp_cond rfl (fun hb25 => ?_) (fun hb25 => ?_)
    ·
     have hxy : ¬ x = y := by (have h9 := hb25; intro e; rw [ActT.eqB_iff.2 e] at h9; cases h9)
     refine AWp_seqK fun Y2 y2 => ?_
     refine AWp_region ?_
     simp only [↓bO, go_sem, seval, ActT.cells, hw0, hlt, hlt2, hgx, hgy, hfold]
     refine y2 _ ?_
     try clear y2 Y2
     refine AWp_ret ?_
     try simp only [thenQ, blockQ, noGotoQ, retQ, aRes, tupOf, bS, bA]
     refine Le.of_eq (congrArg (fun b => AV.v (.bool b)) ?_)
     exact (decide_eq_false fun e => hxy (Option.some.inj (by rw [← hx, ← hy, e]))).symm
    ·
     have hxy : x = y := ActT.eqB_iff.1 (by have h9 := hb25; simpa only [Bool.not_eq_false'] using h9)
     refine AWp_skip ?_
     try simp only [thenQ, blockQ, noGotoQ]
     refine y1 _ ?_
     try clear y1 Y1
     refine AWp_region ?_
     iterate 2 (refine aops_chunk 1 fun Q0 q0 => ?_; simp only [↓bO, go_sem, seval, ActT.cells, hw0, hlt, hlt2, hgx, hgy, hfold]; refine q0 _ ?_; clear q0 Q0; simp only [go_sem])
     simp only [↓bO, go_sem, seval, ActT.cells, hw0, hlt, hlt2, hgx, hgy, hfold]
     refine ⟨(i + 1), ⟨by omega, by rw [List.take_add_one, List.take_add_one, hx, hy, hi.2, hxy]⟩, (by omega), ?_⟩
     try simp only [maskL, setsL, putsO, putO, mB, List.set_cons_zero, List.set_cons_succ, seval, hw0, hlt, hlt2, hgx, hgy, hfold]
     exact Weak.mk (by simp only [go_sem, Le.refl, Le.any, Le.slNil, Int.natCast_add, Int.cast_ofNat_Int, Int.natCast_one]) (fun _ _ h => h) rfl rfl
   ·
    have hge : ¬ i < a.length := (by have h9 := hb14; simpa using h9)
    have hab : a = b := by (have h9 := hi.2; rwa [List.take_of_length_le (by omega), List.take_of_length_le (by omega)] at h9)
    refine AWp_exit ?_
    simp only [thenQ, blockQ, noGotoQ, bA, Nat.reduceEqDiff, ↓reduceIte]
    refine y0 _ ?_
    try clear y0 Y0
    refine AWp_seqK fun Y0 y0 => ?_
    refine AWp_region ?_
    simp only [↓bO, go_sem, seval, ActT.cells]
    refine y0 _ ?_
    try clear y0 Y0
    refine AWp_ret ?_
    try simp only [thenQ, blockQ, noGotoQ, retQ, aRes, tupOf, bS, bA]
    refine Le.of_eq (congrArg (fun b => AV.v (.bool b)) ?_)
    exact (decide_eq_true hab).symm
theorem text_size {a : ActT} (hf : a.fits) (h0 : a.err = 0) : a.text'.size ≤ 13000 := by
  obtain ⟨hk, h1, h2, h3⟩ := ActT.ok_of h0
  have hn := ActT.name20e h1
  obtain ⟨f1, f2, f3, f4, f5, f6⟩ := hf
  have e1 := itS_size a.p1 f1.1 f1.2
  have e2 := itS_size a.p2 f2.1 f2.2
  have e3 := itS_size a.n f3.1 f3.2
  have e4 := itS_size a.lb f4.1 f4.2
  have e5 := itS_size a.ld f5.1 f5.2
  have e6 := itS_size a.le f6.1 f6.2
  have e7 := quS_size a.text
  have z0 : (⟨#[111, 112, 101, 110, 32]⟩ : ByteArray).size = 5 := rfl
  have z1 : (⟨#[101, 100, 105, 116, 32]⟩ : ByteArray).size = 5 := rfl
  have z2 : (⟨#[99, 108, 111, 115, 101, 32]⟩ : ByteArray).size = 6 := rfl
  have z3 : (⟨#[99, 104, 101, 99, 107, 32]⟩ : ByteArray).size = 6 := rfl
  have z4 : (⟨#[114, 117, 110, 32]⟩ : ByteArray).size = 4 := rfl
  have z5 : (⟨#[108, 105, 109, 105, 116, 32]⟩ : ByteArray).size = 6 := rfl
  have z6 : (⟨#[32]⟩ : ByteArray).size = 1 := rfl
  rcases kinds hk with h | h | h | h | h | h | h
  · rw [← rl1 h]; simp only [size_add]; omega
  · rw [← rl2 h]; simp only [size_add]; omega
  · rw [← rl3 h]; simp only [size_add]; omega
  · rw [← rl4 h]; simp only [size_add]; omega
  · rw [← rl5 h]; simp only [size_add]; omega
  · rw [← rl6 h]; simp only [size_add]; omega
  · rw [← rl7 h]; decide
end Go.Proofs.YtmepcmphcghbeaaDoor
