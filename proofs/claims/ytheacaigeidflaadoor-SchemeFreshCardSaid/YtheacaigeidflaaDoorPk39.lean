/- Texts of the abstract walk, of the contracts and of the plain laws, packed (part 39 of 44): Sc8 Sc9 Sc10 Sc11 Sc13. Conditions: none. -/
import Derived.Test.YtheacaigeidflaaDoorPk38
namespace Go.Proofs.YtheacaigeidflaaDoor
open Go Go.RowKit
set_option maxRecDepth 100000
set_option maxHeartbeats 4000000
set_option linter.unusedSimpArgs false
set_option linter.unusedVariables false
attribute [local irreducible] aops dRun
theorem Ty.covL_append : ∀ (ps qs ps' qs' : List Ty) (m : List (Int × Ty)), ps.length = qs.length → Ty.covL (ps ++ ps') (qs ++ qs') m = if (Ty.covL ps qs m).1 then Ty.covL ps' qs' (Ty.covL ps qs m).2 else (false, (Ty.covL ps qs m).2)
  | [], [], ps', qs', m, _ => by simp [Ty.covL]
  | [], _ :: _, _, _, _, h => by simp at h
  | _ :: _, [], _, _, _, h => by simp at h
  | p :: ps, q :: qs, ps', qs', m, h => by
    simp only [List.cons_append, Ty.covL]
    by_cases h1 : (p.cov q m).1
    · simp only [h1, if_true]; exact Ty.covL_append ps qs ps' qs' _ (by simpa using h)
    · simp [h1]
theorem Ty.covL_one (p q : Ty) (m : List (Int × Ty)) : Ty.covL [p] [q] m = p.cov q m := by
  rw [Ty.covL]
  split
  · rename_i h; rw [Ty.covL]; exact Prod.ext h.symm rfl
  · rename_i h; exact Prod.ext (by simpa using (Bool.not_eq_true _ ▸ h : (p.cov q m).1 = false).symm) rfl
theorem Ty.covL_step {ps qs : List Ty} {s : Nat} {p q : Ty} (hp : ps[s]? = some p) (hq : qs[s]? = some q) (hl : ps.length = qs.length) (m : List (Int × Ty)) (h : (Ty.covL (ps.take s) (qs.take s) m).1 = true) :
    Ty.covL (ps.take (s + 1)) (qs.take (s + 1)) m = p.cov q (Ty.covL (ps.take s) (qs.take s) m).2 := by
  rw [List.take_add_one, List.take_add_one, hp, hq, Ty.covL_append _ _ _ _ _ (by simp [hl]), if_pos h]
  exact Ty.covL_one p q _
theorem Ty.covL_stop {ps qs : List Ty} {s : Nat} {p q : Ty} (hp : ps[s]? = some p) (hq : qs[s]? = some q) (hl : ps.length = qs.length) (m : List (Int × Ty)) (h : (Ty.covL (ps.take s) (qs.take s) m).1 = true)
    (h2 : (p.cov q (Ty.covL (ps.take s) (qs.take s) m).2).1 = false) : Ty.covL ps qs m = (false, (p.cov q (Ty.covL (ps.take s) (qs.take s) m).2).2) := by
  have e := Ty.covL_step hp hq hl m h
  conv => lhs; rw [← List.take_append_drop (s + 1) ps, ← List.take_append_drop (s + 1) qs]
  rw [Ty.covL_append _ _ _ _ _ (by simp [hl]), e, if_neg (by rw [h2]; simp)]
theorem cov_calls : ∀ (T U : Ty) (m : List (Int × Ty)), MCalls 47 [.map 0, .agg T.cells, .agg U.cells] m (.v (.bool (T.cov U m).1)) (T.cov U m).2 := by
  refine Ty.ind fun T ih U m => ?_
  refine ACalls.clean (C := fun r os => r = _ ∧ os = _) ?_
  refine ACalls_intro Tryd.func47 (by kernel_rfl) rfl (by rw [Tryd.ntmps47]; simp) (fun hm => ?_)
  simp only [Tryd.ntmps47, Tryd.results47, List.length_cons, List.length_nil, Nat.reduceAdd, Nat.reduceSub, List.replicate_succ, List.replicate_zero, List.cons_append, List.nil_append]
  obtain ⟨cs, hcs, hl3, hone, htk, hcx⟩ := lookTy m T.n
  have hm1 := hm.wide (t := T) (by simp)
  have hm2 := hm1.len
  have mSetU := mSet m T.n U
  rw [Ty.cells_eq U] at mSetU
  simp only [enumO, Nat.reduceAdd]
  simp only [Ty.cells_eq T, Ty.cells_eq U, List.cons_append, List.nil_append]
  refine AWp_seqK fun Y0 y0 => ?_
  refine AWp_region ?_
  refine aops_chunk 2 fun Q0 q0 => ?_
  simp only [↓bO, go_sem, seval, ↓valAV_ty, hcs, hl3, hone, htk, mSome, mSetU]
  refine q0 _ ?_
  clear q0 Q0
  simp only [go_sem]
  simp only [↓bO, go_sem, seval, ↓valAV_ty, hcs, hl3, hone, htk, mSome, mSetU]
  refine y0 _ ?_
  try clear y0 Y0
  refine AWp_seqK fun Y0 y0 => ?_
  refine AWp_seqK fun Y1 y1 => ?_
  refine AWp_region ?_
  refine aops_chunk 2 fun Q0 q0 => ?_
  simp only [↓bO, go_sem, seval, ↓valAV_ty, hcs, hl3, hone, htk, mSome, mSetU]
  refine q0 _ ?_
  clear q0 Q0
  simp only [go_sem]
  simp only [↓bO, go_sem, seval, ↓valAV_ty, hcs, hl3, hone, htk, mSome, mSetU]
  refine y1 _ ?_
  try clear y1 Y1
  refine AWp_cond rfl (fun hb12 => ?_) (fun hb12 => ?_)
  ·
   have hk1 : T.k = 1 := by simpa using hb12
   refine AWp_seqK fun Y1 y1 => ?_
   refine AWp_region ?_
   iterate 4 (refine aops_chunk 2 fun Q0 q0 => ?_; simp only [↓bO, go_sem, seval, ↓valAV_ty, hcs, hl3, hone, htk, mSome, mSetU]; refine q0 _ ?_; clear q0 Q0; simp only [go_sem])
   simp only [↓bO, go_sem, seval, ↓valAV_ty, hcs, hl3, hone, htk, mSome, mSetU]
   refine y1 _ ?_
   try clear y1 Y1
   refine AWp_seqK fun Y1 y1 => ?_
   refine AWp_region ?_
   iterate 2 (refine aops_chunk 2 fun Q0 q0 => ?_; simp only [↓bO, go_sem, seval, ↓valAV_ty, hcs, hl3, hone, htk, mSome, mSetU]; refine q0 _ ?_; clear q0 Q0; simp only [go_sem])
   simp only [↓bO, go_sem, seval, ↓valAV_ty, hcs, hl3, hone, htk, mSome, mSetU]
   refine y1 _ ?_
   try clear y1 Y1
   refine AWp_seqK fun Y1 y1 => ?_
   refine AWp_region ?_
   refine aops_chunk 2 fun Q0 q0 => ?_
   simp only [↓bO, go_sem, seval, ↓valAV_ty, hcs, hl3, hone, htk, mSome, mSetU]
   refine q0 _ ?_
   clear q0 Q0
   simp only [go_sem]
   refine aops_chunk 1 fun Q0 q0 => ?_
   simp only [↓bO, go_sem, seval, ↓valAV_ty, hcs, hl3, hone, htk, mSome, mSetU]
   refine q0 _ ?_
   clear q0 Q0
   simp only [go_sem]
   refine aops_case 26 rfl (fun hc26 => ?_) (fun hc26 => ?_)
   ·
    simp only [List.set_cons_zero, List.set_cons_succ]
    have hS : (pfind m T.n).isSome = false := by simpa using hc26
    have hfn : pfind m T.n = none := by cases hv : pfind m T.n with | none => rfl | some y => rw [hv] at hS; cases hS
    try simp only [hS]
    iterate 2 (refine aops_chunk 2 fun Q0 q0 => ?_; simp only [↓bO, go_sem, seval, ↓valAV_ty, hcs, hl3, hone, htk, mSome, mSetU]; refine q0 _ ?_; clear q0 Q0; simp only [go_sem])
    simp only [↓bO, go_sem, seval, ↓valAV_ty, hcs, hl3, hone, htk, mSome, mSetU]
    refine y1 _ ?_
    try clear y1 Y1
    refine AWp_ret ?_
    try simp only [thenQ, blockQ, noGotoQ, retQ, aRes, tupOf, bS, bA]
    have hg : T.cov U m = (true, pset m T.n U) := by rw [Ty.cov_var hk1, hfn]
    rw [hg]
    refine ⟨_, enumO 0 [.map (mTC (pset m T.n U))], ⟨rfl, rfl⟩, .v _ _, mUnd (by omega) _, ?_, ?_, by omega⟩
    ·
     refine Le.of_eq ?_
     rfl
    · first | (refine ⟨3, rfl, rfl⟩) | (refine ⟨2, rfl, rfl⟩) | (refine ⟨4, rfl, rfl⟩)
   ·
    simp only [List.set_cons_zero, List.set_cons_succ]
    have hS : (pfind m T.n).isSome = true := by simpa using hc26
    obtain ⟨x, hfx⟩ := Option.isSome_iff_exists.1 hS
    have hce := hcx x hfx
    subst hce
    try simp only [hS]
    refine aops_chunk 2 fun Q0 q0 => ?_
    simp only [↓bO, go_sem, seval, ↓valAV_ty, hcs, hl3, hone, htk, mSome, mSetU]
    refine q0 _ ?_
    clear q0 Q0
    simp only [go_sem]
    refine aops_chunk 1 fun Q0 q0 => ?_
    simp only [↓bO, go_sem, seval, ↓valAV_ty, hcs, hl3, hone, htk, mSome, mSetU]
    refine APure.call (by have h9 := TSame_pure x U; rw [Ty.cells_eq U] at h9; exact h9) ?_
    try simp only [bS, bA, thenQ, blockQ, noGotoQ]
    refine q0 _ ?_
    clear q0 Q0
    simp only [go_sem]
    simp only [↓bO, go_sem, seval, ↓valAV_ty, hcs, hl3, hone, htk, mSome, mSetU]
    refine y1 _ ?_
    try clear y1 Y1
    refine AWp_ret ?_
    try simp only [thenQ, blockQ, noGotoQ, retQ, aRes, tupOf, bS, bA]
    have hg : T.cov U m = (x.same U, pset m T.n U) := by rw [Ty.cov_var hk1, hfx]
    rw [hg]
    refine ⟨_, enumO 0 [.map (mTC (pset m T.n U))], ⟨rfl, rfl⟩, .v _ _, mUnd (by omega) _, ?_, ?_, by omega⟩
    ·
     refine Le.of_eq ?_
     rfl
    · first | (refine ⟨3, rfl, rfl⟩) | (refine ⟨2, rfl, rfl⟩) | (refine ⟨4, rfl, rfl⟩)
  ·
   have hk1 : ¬ T.k = 1 := by simpa using hb12
   refine AWp_skip ?_
   try simp only [thenQ, blockQ, noGotoQ]
   refine y0 _ ?_
   try clear y0 Y0
   refine AWp_seqK fun Y0 y0 => ?_
   refine AWp_seqK fun Y1 y1 => ?_
   refine AWp_region ?_
   iterate 3 (refine aops_chunk 2 fun Q0 q0 => ?_; simp only [↓bO, go_sem, seval, ↓valAV_ty, hcs, hl3, hone, htk, mSome, mSetU]; refine q0 _ ?_; clear q0 Q0; simp only [go_sem])
   refine aops_case 36 rfl (fun hc36 => ?_) (fun hc36 => ?_)
   ·
    simp only [List.set_cons_zero, List.set_cons_succ]
    have hno : ¬ (T.k = U.k ∧ T.n = U.n ∧ T.ps.length = U.ps.length) := fun h9 => by have h8 := h9.1; simp at hc36; exact hc36 h8
    iterate 7 (refine aops_chunk 2 fun Q0 q0 => ?_; simp only [↓bO, go_sem, seval, ↓valAV_ty, hcs, hl3, hone, htk, mSome, mSetU]; refine q0 _ ?_; clear q0 Q0; simp only [go_sem])
    simp only [↓bO, go_sem, seval, ↓valAV_ty, hcs, hl3, hone, htk, mSome, mSetU]
    refine y1 _ ?_
    try clear y1 Y1
    refine AWp_cond (b := true) (by first | exact rfl | exact congrArg (fun b => AV.v (.bool b)) hb51) (fun _ => ?_) (fun h => (by cases h))
    refine AWp_seqK fun Y1 y1 => ?_
    refine AWp_region ?_
    simp only [↓bO, go_sem, seval, ↓valAV_ty, hcs, hl3, hone, htk, mSome, mSetU]
    refine y1 _ ?_
    try clear y1 Y1
    refine AWp_ret ?_
    try simp only [thenQ, blockQ, noGotoQ, retQ, aRes, tupOf, bS, bA]
    have hg : T.cov U m = (false, m) := Ty.cov_no hk1 hno
    rw [hg]
    refine ⟨_, enumO 0 [.map (mTC (m))], ⟨rfl, rfl⟩, .v _ _, mUnd (by omega) _, ?_, ?_, by omega⟩
    ·
     refine Le.of_eq ?_
     rfl
    · first | (refine ⟨2, rfl, rfl⟩)
   ·
    simp only [List.set_cons_zero, List.set_cons_succ]
    have hkk : T.k = U.k := by simpa using hc36
    iterate 3 (refine aops_chunk 2 fun Q0 q0 => ?_; simp only [↓bO, go_sem, seval, ↓valAV_ty, hcs, hl3, hone, htk, mSome, mSetU]; refine q0 _ ?_; clear q0 Q0; simp only [go_sem])
    refine aops_chunk 1 fun Q0 q0 => ?_
    simp only [↓bO, go_sem, seval, ↓valAV_ty, hcs, hl3, hone, htk, mSome, mSetU]
    refine q0 _ ?_
    clear q0 Q0
    simp only [go_sem]
    refine aops_case 43 rfl (fun hc43 => ?_) (fun hc43 => ?_)
    ·
     simp only [List.set_cons_zero, List.set_cons_succ]
     have hno : ¬ (T.k = U.k ∧ T.n = U.n ∧ T.ps.length = U.ps.length) := fun h9 => by have h8 := h9.2.1; simp at hc43; exact hc43 h8
     iterate 3 (refine aops_chunk 2 fun Q0 q0 => ?_; simp only [↓bO, go_sem, seval, ↓valAV_ty, hcs, hl3, hone, htk, mSome, mSetU]; refine q0 _ ?_; clear q0 Q0; simp only [go_sem])
     simp only [↓bO, go_sem, seval, ↓valAV_ty, hcs, hl3, hone, htk, mSome, mSetU]
     refine y1 _ ?_
     try clear y1 Y1
     refine AWp_cond (b := true) (by first | exact rfl | exact congrArg (fun b => AV.v (.bool b)) hb51) (fun _ => ?_) (fun h => (by cases h))
     refine AWp_seqK fun Y1 y1 => ?_
     refine AWp_region ?_
     simp only [↓bO, go_sem, seval, ↓valAV_ty, hcs, hl3, hone, htk, mSome, mSetU]
     refine y1 _ ?_
     try clear y1 Y1
     refine AWp_ret ?_
     try simp only [thenQ, blockQ, noGotoQ, retQ, aRes, tupOf, bS, bA]
     have hg : T.cov U m = (false, m) := Ty.cov_no hk1 hno
     rw [hg]
     refine ⟨_, enumO 0 [.map (mTC (m))], ⟨rfl, rfl⟩, .v _ _, mUnd (by omega) _, ?_, ?_, by omega⟩
     ·
      refine Le.of_eq ?_
      rfl
     · first | (refine ⟨2, rfl, rfl⟩)
    ·
     simp only [List.set_cons_zero, List.set_cons_succ]
     have hnn : T.n = U.n := by simpa using hc43
     iterate 3 (refine aops_chunk 2 fun Q0 q0 => ?_; simp only [↓bO, go_sem, seval, ↓valAV_ty, hcs, hl3, hone, htk, mSome, mSetU]; refine q0 _ ?_; clear q0 Q0; simp only [go_sem])
     simp only [↓bO, go_sem, seval, ↓valAV_ty, hcs, hl3, hone, htk, mSome, mSetU]
     refine y1 _ ?_
     try clear y1 Y1
     refine AWp_cond rfl (fun hb51 => ?_) (fun hb51 => ?_)
     ·
      have hno : ¬ (T.k = U.k ∧ T.n = U.n ∧ T.ps.length = U.ps.length) := fun h9 => by have := h9.2.2; simp at hb51; omega
      refine AWp_seqK fun Y1 y1 => ?_
      refine AWp_region ?_
      simp only [↓bO, go_sem, seval, ↓valAV_ty, hcs, hl3, hone, htk, mSome, mSetU]
      refine y1 _ ?_
      try clear y1 Y1
      refine AWp_ret ?_
      try simp only [thenQ, blockQ, noGotoQ, retQ, aRes, tupOf, bS, bA]
      have hg : T.cov U m = (false, m) := Ty.cov_no hk1 hno
      rw [hg]
      refine ⟨_, enumO 0 [.map (mTC (m))], ⟨rfl, rfl⟩, .v _ _, mUnd (by omega) _, ?_, ?_, by omega⟩
      ·
       refine Le.of_eq ?_
       rfl
      · first | (refine ⟨2, rfl, rfl⟩)
     ·
      have hll : T.ps.length = U.ps.length := by simp at hb51; omega
      refine AWp_skip ?_
      try simp only [thenQ, blockQ, noGotoQ]
      refine y0 _ ?_
      try clear y0 Y0
      refine AWp_seqK fun Y0 y0 => ?_
      refine AWp_seqK fun Y1 y1 => ?_
      refine AWp_region ?_
      refine aops_chunk 2 fun Q0 q0 => ?_
      simp only [↓bO, go_sem, seval, ↓valAV_ty, hcs, hl3, hone, htk, mSome, mSetU]
      refine q0 _ ?_
      clear q0 Q0
      simp only [go_sem]
      simp only [↓bO, go_sem, seval, ↓valAV_ty, hcs, hl3, hone, htk, mSome, mSetU]
      refine y1 _ ?_
      try clear y1 Y1
      refine AWp_block ?_
      refine AWp_loopM (σ := Nat) (mB 72 54043195528446001) (fun s => s ≤ T.ps.length ∧ (Ty.covL (T.ps.take s) (U.ps.take s) m).1 = true) (fun s => [(55, .v (.int .i64 (s : Int)))]) (fun s => [(0, .map (mTC (Ty.covL (T.ps.take s) (U.ps.take s) m).2))]) (fun s => T.ps.length - s) 0 (⟨by omega, by simp [Ty.covL]⟩) ?_ (fun s hs => ?_)
      ·
       simp only [maskL, setsL, putsO, putO, mB, List.set_cons_zero, List.set_cons_succ, seval, bL, Ty.covL]
       exact Weak.mk (by simp only [go_sem, Le.refl, Le.any, Le.slNil, Int.natCast_add, Int.cast_ofNat_Int, Int.natCast_one]) (fun _ _ h => h) rfl rfl
      simp only [maskL, setsL, putsO, putO, mB, List.set_cons_zero, List.set_cons_succ, seval]
      refine AWp_seqK fun Y1 y1 => ?_
      refine AWp_region ?_
      simp only [↓bO, go_sem, seval, ↓valAV_ty, hcs, hl3, hone, htk, mSome, mSetU]
      refine y1 _ ?_
      try clear y1 Y1
      refine AWp_seqK fun Y1 y1 => ?_
      refine AWp_cond rfl (fun hb56 => ?_) (fun hb56 => ?_)
      ·
       have hk : s < T.ps.length := by (have h9 := hb56; simp at h9; omega)
       have hk2 : s < U.ps.length := by omega
       obtain ⟨p, hp⟩ : ∃ p, T.ps[s]? = some p := ⟨_, List.getElem?_eq_getElem hk⟩
       obtain ⟨q, hq⟩ : ∃ q, U.ps[s]? = some q := ⟨_, List.getElem?_eq_getElem hk2⟩
       have hst := Ty.covL_step hp hq hll m hs.2
       have hw : IntKind.i64.wrap ((s : Int) + 1) = (s : Int) + 1 := wrap_in (by omega) (by simp only [maxLen] at hm2; omega)
       refine AWp_skip ?_
       try simp only [thenQ, blockQ, noGotoQ]
       refine y1 _ ?_
       try clear y1 Y1
       refine AWp_seqK fun Y1 y1 => ?_
       refine AWp_block ?_
       refine AWp_seqK fun Y2 y2 => ?_
       refine AWp_region ?_
       simp only [↓bO, go_sem, seval, ↓valAV_ty, hcs, hl3, hone, htk, mSome, mSetU, hk, hk2, gM hp, gM hq, Int.natCast_add, hw, hst]
       refine y2 _ ?_
       try clear y2 Y2
       refine AWp_seqK fun Y2 y2 => ?_
       refine AWp_drawK 11 mixed (by kernel_rfl) fun J0 j0 => ?_
       iterate 5 (simp only [go_sem]; refine dRun_chunk 2 fun Q0 q0 => ?_; simp only [↓dRun, ↓dOp, ↓bO, go_sem, seval, ↓valAV_ty, hcs, hl3, hone, htk, mSome, mSetU, hk, hk2, gM hp, gM hq, Int.natCast_add, hw, hst]; refine q0 _ ?_; clear q0 Q0)
       simp only [go_sem]
       simp only [↓dRun, ↓dOp, ↓bO, go_sem, seval, ↓valAV_ty, hcs, hl3, hone, htk, mSome, mSetU, hk, hk2, gM hp, gM hq, Int.natCast_add, hw, hst]
       refine j0 _ ?_
       clear j0 J0
       simp only [go_sem]
       refine aops_chunk 1 fun Q0 q0 => ?_
       simp only [↓bO, go_sem, seval, ↓valAV_ty, hcs, hl3, hone, htk, mSome, mSetU, hk, hk2, gM hp, gM hq, Int.natCast_add, hw, hst]
       refine MCalls.at (ih p (List.mem_of_getElem? hp) q (Ty.covL (T.ps.take s) (U.ps.take s) m).2) (.cons (Ty.dataAgg p) (.cons (Ty.dataAgg q) .nil)) (.v _) (i := 0) rfl (by first | omega | (simp only; omega)) ?_
       simp only [putO, Nat.reduceEqDiff, ↓reduceIte]
       try simp only [bS, bA, thenQ, blockQ, noGotoQ]
       refine q0 _ ?_
       clear q0 Q0
       simp only [go_sem]
       simp only [↓bO, go_sem, seval, ↓valAV_ty, hcs, hl3, hone, htk, mSome, mSetU, hk, hk2, gM hp, gM hq, Int.natCast_add, hw, hst]
       refine y2 _ ?_
       try clear y2 Y2
       refine AWp_cond rfl (fun hb70 => ?_) (fun hb70 => ?_)
       ·
        refine AWp_seqK fun Y2 y2 => ?_
        refine AWp_region ?_
        simp only [↓bO, go_sem, seval, ↓valAV_ty, hcs, hl3, hone, htk, mSome, mSetU, hk, hk2, gM hp, gM hq, Int.natCast_add, hw, hst]
        refine y2 _ ?_
        try clear y2 Y2
        refine AWp_ret ?_
        try simp only [thenQ, blockQ, noGotoQ, retQ, aRes, tupOf, bS, bA]
        have hg : T.cov U m = (false, (p.cov q (Ty.covL (T.ps.take s) (U.ps.take s) m).2).2) := by rw [Ty.cov_more hk1 ⟨hkk, hnn, hll⟩]; exact Ty.covL_stop hp hq hll m hs.2 (by simpa using hb70)
        rw [hg]
        refine ⟨_, enumO 0 [.map (mTC ((p.cov q (Ty.covL (T.ps.take s) (U.ps.take s) m).2).2))], ⟨rfl, rfl⟩, .v _ _, mUnd (by omega) _, ?_, ?_, by omega⟩
        ·
         refine Le.of_eq ?_
         rfl
        · first | (refine ⟨2, rfl, rfl⟩)
       ·
        refine AWp_skip ?_
        try simp only [thenQ, blockQ, noGotoQ]
        refine y1 _ ?_
        try clear y1 Y1
        refine AWp_region ?_
        simp only [↓bO, go_sem, seval, ↓valAV_ty, hcs, hl3, hone, htk, mSome, mSetU, hk, hk2, gM hp, gM hq, Int.natCast_add, hw, hst]
        refine ⟨(s + 1), ⟨by omega, by rw [hst]; simpa using hb70⟩, by omega, ?_⟩
        simp only [maskL, setsL, putsO, putO, mB, List.set_cons_zero, List.set_cons_succ, seval, hk, hk2, gM hp, gM hq, Int.natCast_add, Int.natCast_one, hw, hst]
        exact Weak.mk (by simp only [go_sem, Le.refl, Le.any, Le.slNil, Int.natCast_add, Int.cast_ofNat_Int, Int.natCast_one]) (fun _ _ h => h) rfl rfl
      ·
       have hk : s = T.ps.length := by have := hs.1; simp at hb56; omega
       refine AWp_exit ?_
       simp only [thenQ, blockQ, noGotoQ, bA, Nat.reduceEqDiff, ↓reduceIte]
       refine y0 _ ?_
       try clear y0 Y0
       refine AWp_seqK fun Y0 y0 => ?_
       refine AWp_region ?_
       simp only [↓bO, go_sem, seval, ↓valAV_ty, hcs, hl3, hone, htk, mSome, mSetU]
       refine y0 _ ?_
       try clear y0 Y0
       refine AWp_ret ?_
       try simp only [thenQ, blockQ, noGotoQ, retQ, aRes, tupOf, bS, bA]
       have h8 := hs.2
       rw [hk, List.take_length, hll, List.take_length] at h8
       have hg : T.cov U m = (true, (Ty.covL T.ps U.ps m).2) := by rw [Ty.cov_more hk1 ⟨hkk, hnn, hll⟩]; exact Prod.ext h8 rfl
       rw [hg, hk, List.take_length, hll, List.take_length]
       refine ⟨_, enumO 0 [.map (mTC ((Ty.covL T.ps U.ps m).2))], ⟨rfl, rfl⟩, .v _ _, mUnd (by omega) _, ?_, ?_, by omega⟩
       ·
        refine Le.of_eq ?_
        rfl
       · first | (refine ⟨2, rfl, rfl⟩)
def Sch.rig (s : Sch) (v : Int) : Bool := !decide (v ∈ s.vs)
def instC (s : Sch) (t : Ty) : Bool := s.ok && t.right && (if s.free = [] then (s.t.match t []).1 else ((s.t.mark s.rig).cov (t.mark fun _ => true) []).1)
theorem SClose_pure (t : Ty) (ar : List Ty) (hc : t.cnt ≤ 1048576) (har : Ty.cntL ar ≤ 1048576) : APure Tryd.prog 10 [.agg t.cells, .sl 3 (ar.map Ty.cells)] (.agg (closeS t ar).cells) := by
  refine APure.mkL (.cons (Ty.dataAgg _) (.cons (Ty.dataSl _) .nil)) (Sch.agg) ?_
  refine ACalls_intro Tryd.func10 (by kernel_rfl) rfl (by rw [Tryd.ntmps10]; simp) (fun hm => ?_)
  simp only [Tryd.ntmps10, Tryd.results10, List.length_cons, List.length_nil, Nat.reduceAdd, Nat.reduceSub, List.replicate_succ, List.replicate_zero, List.cons_append, List.nil_append]
  have hrl := Ty.rvarsL_len ar []
  have htl := Ty.rvarsL_len [t] []
  simp only [List.length_nil, Ty.cntL] at hrl htl
  refine AWp_joinZ (mB 20 22) ([(2, .eptr t.cells), (4, .ptr 1 0)]) [(1, .cells 31 [.v (.slice none 0 0), .v (.int .i64 0), .v (.int .i64 0), .v (.slice none 0 0)])] 2 (True) ?_ (fun hC => ?_)
  ·
   refine AWp_region ?_
   refine aops_chunk 1 fun Q0 q0 => ?_
   simp only [↓bO, go_sem, seval, Sch.cells]
   refine q0 _ ?_
   clear q0 Q0
   simp only [go_sem]
   simp only [↓bO, go_sem, seval, Sch.cells]
   try simp only [maskL, setsL, putsO, putO, mB, List.set_cons_zero, List.set_cons_succ, seval]
   first | refine ⟨trivial, ?_⟩ | skip
   refine Weak.freeze ?_ ⟨rfl, trivial⟩ (by first | omega | (simp only; omega)) (by first | omega | (simp only; omega)) ?_ ?_
   · repeat' first | trivial | exact .inr ⟨_, _, _, rfl, rfl, rfl, rfl⟩ | exact .inl (.refl _) | exact .inl (.any _) | (refine ⟨?_, ?_⟩)
   · repeat' first | exact trivial | exact .any _ | exact .v _ _ | exact .ptr (by omega) | exact Und.data (dataInts _) | exact Und.data Sch.eptr | exact Und.data Sch.agg | exact Und.data (Ty.dataSl _) | exact Und.data (.eptr (Ty.data _)) | exact Und.data (.eptr (.cons (dataInts _) .nil)) | exact .own (by omega) | (refine ⟨?_, ?_⟩)
   · repeat' first | exact trivial | (with_reducible omega) | exact Und.rowI (iD_data _) | exact UndL.data (Ty.data _) | exact UndL.data (Sch.data _) | exact .v _ _ | (refine ⟨?_, ?_⟩)
  simp only [maskL, setsL, putsO, putO, mB, List.set_cons_zero, List.set_cons_succ, seval]
  refine AWp_seqK fun Y0 y0 => ?_
  refine AWp_seqK fun Y1 y1 => ?_
  refine AWp_region ?_
  refine aops_chunk 1 fun Q0 q0 => ?_
  simp only [↓bO, go_sem, seval, Sch.cells]
  refine q0 _ ?_
  clear q0 Q0
  simp only [go_sem]
  refine aops_chunk 1 fun Q0 q0 => ?_
  simp only [↓bO, go_sem, seval, Sch.cells]
  refine APure.call (Right_pure t) ?_
  try simp only [bS, bA, thenQ, blockQ, noGotoQ]
  refine q0 _ ?_
  clear q0 Q0
  simp only [go_sem]
  simp only [↓bO, go_sem, seval, Sch.cells]
  refine y1 _ ?_
  try clear y1 Y1
  refine AWp_cond rfl (fun hb8 => ?_) (fun hb8 => ?_)
  ·
   have hr : t.right = false := by simpa using hb8
   refine AWp_seqK fun Y1 y1 => ?_
   refine AWp_region ?_
   refine aops_chunk 1 fun Q0 q0 => ?_
   simp only [↓bO, go_sem, seval, Sch.cells]
   refine q0 _ ?_
   clear q0 Q0
   simp only [go_sem]
   simp only [↓bO, go_sem, seval, Sch.cells]
   refine y1 _ ?_
   try clear y1 Y1
   refine AWp_ret ?_
   try simp only [thenQ, blockQ, noGotoQ, retQ, aRes, tupOf, bS, bA, aLoad, getO, pack, bL, Nat.reduceAdd, Nat.reduceLeDiff, Nat.reduceEqDiff, ↓reduceIte, ti31, tyX, Sch.cells, List.length_map]
   unfold closeS
   rw [hr, if_neg (by decide)]
   exact zSch_le
  ·
   have hr : t.right = true := by simpa using hb8
   refine AWp_skip ?_
   try simp only [thenQ, blockQ, noGotoQ]
   refine y0 _ ?_
   try clear y0 Y0
   refine AWp_joinZ (mB 20 52) ([(5, .eptr [.sl 1 ((Ty.rvarsL ar []).map intC)])]) [(1, .cells 31 [.v (.slice none 0 0), .v (.int .i64 0), .v (.int .i64 0), .v (.slice none 0 0)])] 2 (True) ?_ (fun hC => ?_)
   ·
    refine AWp_region ?_
    refine aops_chunk 1 fun Q0 q0 => ?_
    simp only [↓bO, go_sem, seval, Sch.cells]
    refine q0 _ ?_
    clear q0 Q0
    simp only [go_sem]
    refine aops_chunk 1 fun Q0 q0 => ?_
    simp only [↓bO, go_sem, seval, Sch.cells]
    refine APure.call (Vars_pure ar (by omega)) ?_
    try simp only [bS, bA, thenQ, blockQ, noGotoQ]
    refine q0 _ ?_
    clear q0 Q0
    simp only [go_sem]
    refine aops_chunk 1 fun Q0 q0 => ?_
    simp only [↓bO, go_sem, seval, Sch.cells]
    refine q0 _ ?_
    clear q0 Q0
    simp only [go_sem]
    simp only [↓bO, go_sem, seval, Sch.cells]
    try simp only [maskL, setsL, putsO, putO, mB, List.set_cons_zero, List.set_cons_succ, seval]
    first | refine ⟨trivial, ?_⟩ | skip
    refine Weak.freeze ?_ ⟨rfl, trivial⟩ (by first | omega | (simp only; omega)) (by first | omega | (simp only; omega)) ?_ ?_
    · repeat' first | trivial | exact .inr ⟨_, _, _, rfl, rfl, rfl, rfl⟩ | exact .inl (.refl _) | exact .inl (.any _) | (refine ⟨?_, ?_⟩)
    · repeat' first | exact trivial | exact .any _ | exact .v _ _ | exact .ptr (by omega) | exact Und.data (dataInts _) | exact Und.data Sch.eptr | exact Und.data Sch.agg | exact Und.data (Ty.dataSl _) | exact Und.data (.eptr (Ty.data _)) | exact Und.data (.eptr (.cons (dataInts _) .nil)) | exact .own (by omega) | (refine ⟨?_, ?_⟩)
    · repeat' first | exact trivial | (with_reducible omega) | exact Und.rowI (iD_data _) | exact UndL.data (Ty.data _) | exact UndL.data (Sch.data _) | exact .v _ _ | (refine ⟨?_, ?_⟩)
   simp only [maskL, setsL, putsO, putO, mB, List.set_cons_zero, List.set_cons_succ, seval]
   refine AWp_seqK fun Y0 y0 => ?_
   refine NAny_start 9 [2, 5] rfl mixed ?_
   dsimp only
   refine NAny_takeK 0 rfl (by kernel_rfl) (by kernel_rfl) (by kernel_rfl) (fun _ _ h => h) (by kernel_rfl) (fun d h => by cases h; rfl) (by kernel_rfl) (G' := [12, 2, 5]) (by kernel_rfl) fun Q0 q0 => ?_
   simp only [↓bO, go_sem, seval, nHead, isE, isSE, isV, Sch.cells]
   refine q0 _ ?_
   clear q0 Q0
   refine NAny_takeK 5 rfl (by kernel_rfl) (by kernel_rfl) (by kernel_rfl) (fun _ _ h => h) (by kernel_rfl) (fun d h => by cases h; rfl) (by kernel_rfl) (G' := [17, 12, 2, 5]) (by kernel_rfl) fun Q0 q0 => ?_
   simp only [↓bO, go_sem, seval, nHead, isE, isSE, isV, Sch.cells]
   refine q0 _ ?_
   clear q0 Q0
   refine NAny_all2 (i := 1) (j := 3) (by kernel_rfl) rfl rfl (fun d h => by cases h; rfl) (fun d h => by cases h; rfl) ?_ ?_
   ·
    refine aAt_op rfl rfl fun Q0 q0 => ?_
    simp only [↓bO, go_sem, seval, ↓bs1_1, ↓bs1_2, ↓bs1_3, ↓bs1_4, ↓bs1_5, ↓bs1_6, ↓bs1_7, ↓bs1_8, ↓bs1_9, ↓bs1_10, ↓bs1_11, ↓bs1_12, Sch.cells]
    refine q0 _ ⟨⟨rfl, rfl, rfl, rfl, trivial⟩, ?_⟩
    clear q0 Q0
    refine NAny_all2 (i := 2) (j := 3) (by kernel_rfl) rfl rfl (fun d h => by cases h; rfl) (fun d h => by cases h; rfl) ?_ ?_
    ·
     refine aAt_op rfl rfl fun Q0 q0 => ?_
     simp only [↓bO, go_sem, seval, Sch.cells]
     refine ACalls.fresh (R' := .own 2 (Ty.rvarsL [t] []).length) (os1' := [(2, .row 3 1 ((Ty.rvarsL [t] []).map intC))]) (OVars_calls [t] (by simp only [Ty.cntL]; omega)) (.cons (show Data (.sl 3 [t.cells]) from Ty.dataSl [t]) .nil) (.own rfl) (by simp) ⟨rfl, .row (iD_data _), trivial⟩ ?_
     simp only [List.cons_append, List.nil_append]
     try simp only [bS, bA]
     refine q0 _ ⟨⟨rfl, rfl, rfl, rfl, trivial⟩, ?_⟩
     clear q0 Q0
     refine NAny_all1 (i := 3) (by kernel_rfl) rfl (fun d h => by cases h; rfl) ?_
     refine aAt_op rfl rfl fun Q0 q0 => ?_
     simp only [↓bO, go_sem, seval, Sch.cells]
     refine q0 _ ⟨⟨rfl, rfl, rfl, rfl, trivial⟩, ?_⟩
     clear q0 Q0
     refine NAny_all1 (i := 4) (by kernel_rfl) rfl (fun d h => by cases h; rfl) ?_
     refine aAt_op rfl rfl fun Q0 q0 => ?_
     simp only [↓bO, go_sem, seval, Sch.cells]
     refine ACalls.eats (DelF_calls (Ty.rvarsL [t] []) 35 [.eptr [.sl 1 ((Ty.rvarsL ar []).map intC)]] (fun v => decide (v ∈ (Ty.rvarsL ar []))) (by omega) (.cons (.eptr (.cons (dataInts _) .nil)) .nil) (fun v _ => Close1_pure (Ty.rvarsL ar []) v (by omega))) (by first | omega | (simp only; omega)) ⟨.own rfl, .data (.clo (.cons (.eptr (.cons (dataInts _) .nil)) .nil)), trivial⟩ (dataInts _) rfl (.row (iD_data _)) ?_
     simp only [delO, List.filter_cons, List.filter_nil, Nat.reduceBEq, Bool.not_true, Bool.not_false, ↓reduceIte, Bool.false_eq_true]
     try simp only [bS, bA]
     refine q0 _ ⟨⟨rfl, rfl, rfl, rfl, trivial⟩, ?_⟩
     clear q0 Q0
     refine NAny_all1 (i := 6) (by kernel_rfl) rfl (fun d h => by cases h; rfl) ?_
     refine aAt_op rfl rfl fun Q0 q0 => ?_
     simp only [↓bO, go_sem, seval, Sch.cells]
     refine APure.call (Copy_pure t (by omega)) ?_
     try simp only [bS, bA]
     refine q0 _ ⟨⟨rfl, rfl, rfl, rfl, trivial⟩, ?_⟩
     clear q0 Q0
     refine NAny_all1 (i := 7) (by kernel_rfl) rfl (fun d h => by cases h; rfl) ?_
     refine aAt_op rfl rfl fun Q0 q0 => ?_
     simp only [↓bO, go_sem, seval, Sch.cells]
     refine q0 _ ⟨⟨rfl, rfl, rfl, rfl, trivial⟩, ?_⟩
     clear q0 Q0
     refine NAny_all1 (i := 8) (by kernel_rfl) rfl (fun d h => by cases h) ?_
     refine aAt_op rfl rfl fun Q0 q0 => ?_
     simp only [↓bO, go_sem, seval, Sch.cells]
     refine q0 _ ⟨⟨rfl, rfl, rfl, rfl, trivial⟩, ?_⟩
     clear q0 Q0
     refine NAny_done (by kernel_rfl) ?_
     simp only [thenQ, blockQ, noGotoQ]
     refine y0 _ ?_
     try clear y0 Y0
     refine AWp_ret ?_
     try simp only [thenQ, blockQ, noGotoQ, retQ, aRes, tupOf, bS, bA, aLoad, getO, pack, bL, Nat.reduceAdd, Nat.reduceLeDiff, Nat.reduceEqDiff, ↓reduceIte, ti31, tyX, Sch.cells, List.length_map]
     unfold closeS
     rw [if_pos hr]
     exact Le.refl _
    ·
     refine aAt_op rfl rfl fun Q0 q0 => ?_
     simp only [↓bO, go_sem, seval, Sch.cells]
     refine q0 _ ⟨⟨rfl, rfl, rfl, rfl, trivial⟩, ?_⟩
     clear q0 Q0
     refine NAny_all1 (i := 2) (by kernel_rfl) rfl (fun d h => by cases h; rfl) ?_
     refine aAt_op rfl rfl fun Q0 q0 => ?_
     simp only [↓bO, go_sem, seval, Sch.cells]
     refine ACalls.fresh (R' := .own 2 (Ty.rvarsL [t] []).length) (os1' := [(2, .row 3 1 ((Ty.rvarsL [t] []).map intC))]) (OVars_calls [t] (by simp only [Ty.cntL]; omega)) (.cons (show Data (.sl 3 [t.cells]) from Ty.dataSl [t]) .nil) (.own rfl) (by simp) ⟨rfl, .row (iD_data _), trivial⟩ ?_
     simp only [List.cons_append, List.nil_append]
     try simp only [bS, bA]
     refine q0 _ ⟨⟨rfl, rfl, rfl, rfl, trivial⟩, ?_⟩
     clear q0 Q0
     refine NAny_all1 (i := 4) (by kernel_rfl) rfl (fun d h => by cases h; rfl) ?_
     refine aAt_op rfl rfl fun Q0 q0 => ?_
     simp only [↓bO, go_sem, seval, Sch.cells]
     refine ACalls.eats (DelF_calls (Ty.rvarsL [t] []) 35 [.eptr [.sl 1 ((Ty.rvarsL ar []).map intC)]] (fun v => decide (v ∈ (Ty.rvarsL ar []))) (by omega) (.cons (.eptr (.cons (dataInts _) .nil)) .nil) (fun v _ => Close1_pure (Ty.rvarsL ar []) v (by omega))) (by first | omega | (simp only; omega)) ⟨.own rfl, .data (.clo (.cons (.eptr (.cons (dataInts _) .nil)) .nil)), trivial⟩ (dataInts _) rfl (.row (iD_data _)) ?_
     simp only [delO, List.filter_cons, List.filter_nil, Nat.reduceBEq, Bool.not_true, Bool.not_false, ↓reduceIte, Bool.false_eq_true]
     try simp only [bS, bA]
     refine q0 _ ⟨⟨rfl, rfl, rfl, rfl, trivial⟩, ?_⟩
     clear q0 Q0
     refine NAny_all1 (i := 6) (by kernel_rfl) rfl (fun d h => by cases h; rfl) ?_
     refine aAt_op rfl rfl fun Q0 q0 => ?_
     simp only [↓bO, go_sem, seval, Sch.cells]
     refine APure.call (Copy_pure t (by omega)) ?_
     try simp only [bS, bA]
     refine q0 _ ⟨⟨rfl, rfl, rfl, rfl, trivial⟩, ?_⟩
     clear q0 Q0
     refine NAny_all1 (i := 7) (by kernel_rfl) rfl (fun d h => by cases h; rfl) ?_
     refine aAt_op rfl rfl fun Q0 q0 => ?_
     simp only [↓bO, go_sem, seval, Sch.cells]
     refine q0 _ ⟨⟨rfl, rfl, rfl, rfl, trivial⟩, ?_⟩
     clear q0 Q0
     refine NAny_all1 (i := 8) (by kernel_rfl) rfl (fun d h => by cases h) ?_
     refine aAt_op rfl rfl fun Q0 q0 => ?_
     simp only [↓bO, go_sem, seval, Sch.cells]
     refine q0 _ ⟨⟨rfl, rfl, rfl, rfl, trivial⟩, ?_⟩
     clear q0 Q0
     refine NAny_done (by kernel_rfl) ?_
     simp only [thenQ, blockQ, noGotoQ]
     refine y0 _ ?_
     try clear y0 Y0
     refine AWp_ret ?_
     try simp only [thenQ, blockQ, noGotoQ, retQ, aRes, tupOf, bS, bA, aLoad, getO, pack, bL, Nat.reduceAdd, Nat.reduceLeDiff, Nat.reduceEqDiff, ↓reduceIte, ti31, tyX, Sch.cells, List.length_map]
     unfold closeS
     rw [if_pos hr]
     exact Le.refl _
   ·
    refine aAt_op rfl rfl fun Q0 q0 => ?_
    simp only [↓bO, go_sem, seval, Sch.cells]
    refine q0 _ ⟨⟨rfl, rfl, rfl, rfl, trivial⟩, ?_⟩
    clear q0 Q0
    refine NAny_all1 (i := 1) (by kernel_rfl) rfl (fun d h => by cases h; rfl) ?_
    refine aAt_op rfl rfl fun Q0 q0 => ?_
    simp only [↓bO, go_sem, seval, ↓bs1_1, ↓bs1_2, ↓bs1_3, ↓bs1_4, ↓bs1_5, ↓bs1_6, ↓bs1_7, ↓bs1_8, ↓bs1_9, ↓bs1_10, ↓bs1_11, ↓bs1_12, Sch.cells]
    refine q0 _ ⟨⟨rfl, rfl, rfl, rfl, trivial⟩, ?_⟩
    clear q0 Q0
    refine NAny_all1 (i := 2) (by kernel_rfl) rfl (fun d h => by cases h; rfl) ?_
    refine aAt_op rfl rfl fun Q0 q0 => ?_
    simp only [↓bO, go_sem, seval, Sch.cells]
    refine ACalls.fresh (R' := .own 2 (Ty.rvarsL [t] []).length) (os1' := [(2, .row 3 1 ((Ty.rvarsL [t] []).map intC))]) (OVars_calls [t] (by simp only [Ty.cntL]; omega)) (.cons (show Data (.sl 3 [t.cells]) from Ty.dataSl [t]) .nil) (.own rfl) (by simp) ⟨rfl, .row (iD_data _), trivial⟩ ?_
    simp only [List.cons_append, List.nil_append]
    try simp only [bS, bA]
    refine q0 _ ⟨⟨rfl, rfl, rfl, rfl, trivial⟩, ?_⟩
    clear q0 Q0
    refine NAny_all1 (i := 4) (by kernel_rfl) rfl (fun d h => by cases h; rfl) ?_
    refine aAt_op rfl rfl fun Q0 q0 => ?_
    simp only [↓bO, go_sem, seval, Sch.cells]
    refine ACalls.eats (DelF_calls (Ty.rvarsL [t] []) 35 [.eptr [.sl 1 ((Ty.rvarsL ar []).map intC)]] (fun v => decide (v ∈ (Ty.rvarsL ar []))) (by omega) (.cons (.eptr (.cons (dataInts _) .nil)) .nil) (fun v _ => Close1_pure (Ty.rvarsL ar []) v (by omega))) (by first | omega | (simp only; omega)) ⟨.own rfl, .data (.clo (.cons (.eptr (.cons (dataInts _) .nil)) .nil)), trivial⟩ (dataInts _) rfl (.row (iD_data _)) ?_
    simp only [delO, List.filter_cons, List.filter_nil, Nat.reduceBEq, Bool.not_true, Bool.not_false, ↓reduceIte, Bool.false_eq_true]
    try simp only [bS, bA]
    refine q0 _ ⟨⟨rfl, rfl, rfl, rfl, trivial⟩, ?_⟩
    clear q0 Q0
    refine NAny_all1 (i := 6) (by kernel_rfl) rfl (fun d h => by cases h; rfl) ?_
    refine aAt_op rfl rfl fun Q0 q0 => ?_
    simp only [↓bO, go_sem, seval, Sch.cells]
    refine APure.call (Copy_pure t (by omega)) ?_
    try simp only [bS, bA]
    refine q0 _ ⟨⟨rfl, rfl, rfl, rfl, trivial⟩, ?_⟩
    clear q0 Q0
    refine NAny_all1 (i := 7) (by kernel_rfl) rfl (fun d h => by cases h; rfl) ?_
    refine aAt_op rfl rfl fun Q0 q0 => ?_
    simp only [↓bO, go_sem, seval, Sch.cells]
    refine q0 _ ⟨⟨rfl, rfl, rfl, rfl, trivial⟩, ?_⟩
    clear q0 Q0
    refine NAny_all1 (i := 8) (by kernel_rfl) rfl (fun d h => by cases h) ?_
    refine aAt_op rfl rfl fun Q0 q0 => ?_
    simp only [↓bO, go_sem, seval, Sch.cells]
    refine q0 _ ⟨⟨rfl, rfl, rfl, rfl, trivial⟩, ?_⟩
    clear q0 Q0
    refine NAny_done (by kernel_rfl) ?_
    simp only [thenQ, blockQ, noGotoQ]
    refine y0 _ ?_
    try clear y0 Y0
    refine AWp_ret ?_
    try simp only [thenQ, blockQ, noGotoQ, retQ, aRes, tupOf, bS, bA, aLoad, getO, pack, bL, Nat.reduceAdd, Nat.reduceLeDiff, Nat.reduceEqDiff, ↓reduceIte, ti31, tyX, Sch.cells, List.length_map]
    unfold closeS
    rw [if_pos hr]
    exact Le.refl _
theorem mRes_iff {T U : Ty} (h1 : T.right = true) (h2 : U.right = true) : decide ((mRes T U).2 = 0) = (T.match U []).1 := by
  unfold mRes
  rw [h1, h2]
  cases (T.match U []).1 <;> rfl
theorem SInst_pure (s : Sch) (t : Ty) (hc : s.t.cnt ≤ 1048576) (hv : s.vs.length ≤ 1048576) (ht : t.cnt ≤ 1048576) : APure Tryd.prog 22 [.agg s.cells, .agg t.cells] (.v (.bool (instC s t))) := by
  refine APure.mkL (.cons Sch.agg (.cons (Ty.dataAgg _) .nil)) (.v _) ?_
  refine ACalls_intro Tryd.func22 (by kernel_rfl) rfl (by rw [Tryd.ntmps22]; simp) (fun hm => ?_)
  simp only [Tryd.ntmps22, Tryd.results22, List.length_cons, List.length_nil, Nat.reduceAdd, Nat.reduceSub, List.replicate_succ, List.replicate_zero, List.cons_append, List.nil_append]
  refine AWp_joinZ (mB 40 12) ([(2, .eptr s.cells), (3, .eptr t.cells)]) [] 0 (True) ?_ (fun hC => ?_)
  ·
   refine AWp_region ?_
   iterate 2 (refine aops_chunk 1 fun Q0 q0 => ?_; simp only [↓bO, go_sem, seval, Sch.cells]; refine q0 _ ?_; clear q0 Q0; simp only [go_sem])
   simp only [↓bO, go_sem, seval, Sch.cells]
   try simp only [maskL, setsL, putsO, putO, mB, List.set_cons_zero, List.set_cons_succ, seval]
   first | refine ⟨trivial, ?_⟩ | skip
   refine Weak.freeze ?_ trivial (by first | omega | (simp only; omega)) (by first | omega | (simp only; omega)) ?_ ?_
   · repeat' first | trivial | exact .inr ⟨_, _, _, rfl, rfl, rfl, rfl⟩ | exact .inl (.refl _) | exact .inl (.any _) | (refine ⟨?_, ?_⟩)
   · repeat' first | exact trivial | exact .any _ | exact .v _ _ | exact .ptr (by omega) | exact Und.data (dataInts _) | exact Und.data Sch.eptr | exact Und.data Sch.agg | exact Und.data (Ty.dataSl _) | exact Und.data (.eptr (Ty.data _)) | exact Und.data (.eptr (.cons (dataInts _) .nil)) | exact .own (by omega) | (refine ⟨?_, ?_⟩)
   · repeat' first | exact trivial | (with_reducible omega) | exact Und.rowI (iD_data _) | exact UndL.data (Ty.data _) | exact UndL.data (Sch.data _) | exact .v _ _ | (refine ⟨?_, ?_⟩)
  simp only [maskL, setsL, putsO, putO, mB, List.set_cons_zero, List.set_cons_succ, seval]
  refine AWp_seqK fun Y0 y0 => ?_
  refine AWp_seqK fun Y1 y1 => ?_
  refine AWp_region ?_
  refine aops_chunk 1 fun Q0 q0 => ?_
  simp only [↓bO, go_sem, seval, Sch.cells]
  refine q0 _ ?_
  clear q0 Q0
  simp only [go_sem]
  refine aops_chunk 1 fun Q0 q0 => ?_
  simp only [↓bO, go_sem, seval, Sch.cells]
  refine APure.call (SRight_pure s hc (by omega)) ?_
  try simp only [bS, bA, thenQ, blockQ, noGotoQ]
  iterate 2 (refine q0 _ ?_; clear q0 Q0; simp only [go_sem]; refine aops_chunk 1 fun Q0 q0 => ?_; simp only [↓bO, go_sem, seval, Sch.cells])
  refine q0 _ ?_
  clear q0 Q0
  simp only [go_sem]
  refine aops_case 12 rfl (fun hc12 => ?_) (fun hc12 => ?_)
  ·
   simp only [List.set_cons_zero, List.set_cons_succ]
   have hok : s.ok = false := by (have h9 := hc12; simpa using h9)
   iterate 3 (refine aops_chunk 1 fun Q0 q0 => ?_; simp only [↓bO, go_sem, seval, Sch.cells]; refine q0 _ ?_; clear q0 Q0; simp only [go_sem])
   simp only [↓bO, go_sem, seval, Sch.cells]
   refine y1 _ ?_
   try clear y1 Y1
   refine AWp_cond (b := true) (by first | exact rfl | exact congrArg (fun b => AV.v (.bool b)) hb16) (fun _ => ?_) (fun h => (by cases h))
   refine AWp_seqK fun Y1 y1 => ?_
   refine AWp_region ?_
   simp only [↓bO, go_sem, seval, Sch.cells]
   refine y1 _ ?_
   try clear y1 Y1
   refine AWp_ret ?_
   try simp only [thenQ, blockQ, noGotoQ, retQ, aRes, tupOf, bS, bA]
   refine Le.of_eq (congrArg (fun b => AV.v (.bool b)) ?_)
   unfold instC
   rw [hok]; rfl
  ·
   simp only [List.set_cons_zero, List.set_cons_succ]
   have hok : s.ok = true := by (have h9 := hc12; simpa using h9)
   refine aops_chunk 1 fun Q0 q0 => ?_
   simp only [↓bO, go_sem, seval, Sch.cells]
   refine q0 _ ?_
   clear q0 Q0
   simp only [go_sem]
   refine aops_chunk 1 fun Q0 q0 => ?_
   simp only [↓bO, go_sem, seval, Sch.cells]
   refine APure.call (Right_pure t) ?_
   try simp only [bS, bA, thenQ, blockQ, noGotoQ]
   refine q0 _ ?_
   clear q0 Q0
   simp only [go_sem]
   refine aops_chunk 1 fun Q0 q0 => ?_
   simp only [↓bO, go_sem, seval, Sch.cells]
   refine q0 _ ?_
   clear q0 Q0
   simp only [go_sem]
   simp only [↓bO, go_sem, seval, Sch.cells]
   refine y1 _ ?_
   try clear y1 Y1
   refine AWp_cond rfl (fun hb16 => ?_) (fun hb16 => ?_)
   ·
    have htr : t.right = false := by (have h9 := hb16; simpa using h9)
    refine AWp_seqK fun Y1 y1 => ?_
    refine AWp_region ?_
    simp only [↓bO, go_sem, seval, Sch.cells]
    refine y1 _ ?_
    try clear y1 Y1
    refine AWp_ret ?_
    try simp only [thenQ, blockQ, noGotoQ, retQ, aRes, tupOf, bS, bA]
    refine Le.of_eq (congrArg (fun b => AV.v (.bool b)) ?_)
    unfold instC
    rw [hok, htr]; rfl
   ·
    have htr : t.right = true := by (have h9 := hb16; simpa using h9)
    refine AWp_skip ?_
    try simp only [thenQ, blockQ, noGotoQ]
    refine y0 _ ?_
    try clear y0 Y0
    refine AWp_seqK fun Y0 y0 => ?_
    refine AWp_seqK fun Y1 y1 => ?_
    refine AWp_region ?_
    refine aops_chunk 1 fun Q0 q0 => ?_
    simp only [↓bO, go_sem, seval, Sch.cells]
    refine q0 _ ?_
    clear q0 Q0
    simp only [go_sem]
    refine aops_chunk 1 fun Q0 q0 => ?_
    simp only [↓bO, go_sem, seval, Sch.cells]
    refine APure.call ((show APure Tryd.prog 19 [.agg s.cells] (.sl 1 (s.free.map intC)) from by have h9 := SFree_pure s hc (by omega); rw [if_pos hok] at h9; exact h9)) ?_
    try simp only [bS, bA, thenQ, blockQ, noGotoQ]
    refine q0 _ ?_
    clear q0 Q0
    simp only [go_sem]
    refine aops_chunk 1 fun Q0 q0 => ?_
    simp only [↓bO, go_sem, seval, Sch.cells]
    refine q0 _ ?_
    clear q0 Q0
    simp only [go_sem]
    simp only [↓bO, go_sem, seval, Sch.cells]
    refine y1 _ ?_
    try clear y1 Y1
    refine AWp_cond rfl (fun hb20 => ?_) (fun hb20 => ?_)
    ·
     have hfr : s.free = [] := by (have h9 := hb20; simp at h9; exact h9)
     refine AWp_seqK fun Y1 y1 => ?_
     refine AWp_region ?_
     iterate 3 (refine aops_chunk 1 fun Q0 q0 => ?_; simp only [↓bO, go_sem, seval, Sch.cells]; refine q0 _ ?_; clear q0 Q0; simp only [go_sem])
     refine aops_chunk 1 fun Q0 q0 => ?_
     simp only [↓bO, go_sem, seval, Sch.cells]
     refine APure.call (Match_pure s.t t (by omega) (by omega)) ?_
     try simp only [bS, bA, thenQ, blockQ, noGotoQ]
     iterate 4 (refine q0 _ ?_; clear q0 Q0; simp only [go_sem]; refine aops_chunk 1 fun Q0 q0 => ?_; simp only [↓bO, go_sem, seval, Sch.cells])
     refine q0 _ ?_
     clear q0 Q0
     simp only [go_sem]
     simp only [↓bO, go_sem, seval, Sch.cells]
     refine y1 _ ?_
     try clear y1 Y1
     refine AWp_seqK fun Y1 y1 => ?_
     refine AWp_region ?_
     iterate 2 (refine aops_chunk 1 fun Q0 q0 => ?_; simp only [↓bO, go_sem, seval, Sch.cells]; refine q0 _ ?_; clear q0 Q0; simp only [go_sem])
     simp only [↓bO, go_sem, seval, Sch.cells]
     refine y1 _ ?_
     try clear y1 Y1
     refine AWp_ret ?_
     try simp only [thenQ, blockQ, noGotoQ, retQ, aRes, tupOf, bS, bA]
     refine Le.of_eq (congrArg (fun b => AV.v (.bool b)) ?_)
     unfold instC
     rw [hok, htr, if_pos hfr, ← mRes_iff (Sch.ok_iff.1 hok).1 htr]; rfl
    ·
     have hfr : ¬ s.free = [] := by (have h9 := hb20; simp at h9; exact h9)
     refine AWp_skip ?_
     try simp only [thenQ, blockQ, noGotoQ]
     refine y0 _ ?_
     try clear y0 Y0
     refine AWp_joinZ (mB 40 384) ([(7, .eptr (s.t.mark s.rig).cells), (8, .eptr (t.mark fun _ => true).cells)]) [] 0 (True) ?_ (fun hC => ?_)
     ·
      refine AWp_region ?_
      iterate 2 (refine aops_chunk 1 fun Q0 q0 => ?_; simp only [↓bO, go_sem, seval, Sch.cells]; refine q0 _ ?_; clear q0 Q0; simp only [go_sem])
      refine aops_chunk 1 fun Q0 q0 => ?_
      simp only [↓bO, go_sem, seval, Sch.cells]
      refine APure.call ((show APure Tryd.prog 46 [.agg s.cells, .agg t.cells] (.tup [.agg (s.t.mark s.rig).cells, .agg (t.mark fun _ => true).cells]) from rigid_pure s t hv hc ht)) ?_
      try simp only [bS, bA, thenQ, blockQ, noGotoQ]
      iterate 6 (refine q0 _ ?_; clear q0 Q0; simp only [go_sem]; refine aops_chunk 1 fun Q0 q0 => ?_; simp only [↓bO, go_sem, seval, Sch.cells])
      refine q0 _ ?_
      clear q0 Q0
      simp only [go_sem]
      simp only [↓bO, go_sem, seval, Sch.cells]
      try simp only [maskL, setsL, putsO, putO, mB, List.set_cons_zero, List.set_cons_succ, seval]
      first | refine ⟨trivial, ?_⟩ | skip
      refine Weak.freeze ?_ trivial (by first | omega | (simp only; omega)) (by first | omega | (simp only; omega)) ?_ ?_
      · repeat' first | trivial | exact .inr ⟨_, _, _, rfl, rfl, rfl, rfl⟩ | exact .inl (.refl _) | exact .inl (.any _) | (refine ⟨?_, ?_⟩)
      · repeat' first | exact trivial | exact .any _ | exact .v _ _ | exact .ptr (by omega) | exact Und.data (dataInts _) | exact Und.data Sch.eptr | exact Und.data Sch.agg | exact Und.data (Ty.dataSl _) | exact Und.data (.eptr (Ty.data _)) | exact Und.data (.eptr (.cons (dataInts _) .nil)) | exact .own (by omega) | (refine ⟨?_, ?_⟩)
      · repeat' first | exact trivial | (with_reducible omega) | exact Und.rowI (iD_data _) | exact UndL.data (Ty.data _) | exact UndL.data (Sch.data _) | exact .v _ _ | (refine ⟨?_, ?_⟩)
     simp only [maskL, setsL, putsO, putO, mB, List.set_cons_zero, List.set_cons_succ, seval]
     refine AWp_seqK fun Y0 y0 => ?_
     refine AWp_region ?_
     iterate 3 (refine aops_chunk 1 fun Q0 q0 => ?_; simp only [↓bO, go_sem, seval, Sch.cells]; refine q0 _ ?_; clear q0 Q0; simp only [go_sem])
     refine aops_chunk 1 fun Q0 q0 => ?_
     simp only [↓bO, go_sem, seval, Sch.cells]
     refine MCalls.at (m := []) (cov_calls (s.t.mark s.rig) (t.mark fun _ => true) []) (.cons (Ty.dataAgg _) (.cons (Ty.dataAgg _) .nil)) (.v _) (i := 0) rfl (by first | omega | (simp only; omega)) ?_
     simp only [putO, Nat.reduceEqDiff, ↓reduceIte]
     try simp only [bS, bA, thenQ, blockQ, noGotoQ]
     refine q0 _ ?_
     clear q0 Q0
     simp only [go_sem]
     simp only [↓bO, go_sem, seval, Sch.cells]
     refine y0 _ ?_
     try clear y0 Y0
     refine AWp_ret ?_
     try simp only [thenQ, blockQ, noGotoQ, retQ, aRes, tupOf, bS, bA]
     refine Le.of_eq (congrArg (fun b => AV.v (.bool b)) ?_)
     unfold instC
     rw [hok, htr, if_neg hfr]; rfl
theorem Fresh1_pure (n i : Int) (h : IntKind.i64.wrap (n + i) = n + i) : APure Tryd.prog 53 [.v (.int .i64 i), .eptr [.v (.int .i64 n)]] (.v (.int .i64 (n + i))) := by
  refine APure.mkL (.cons (.v _) (.cons (.eptr (.cons (.v _) .nil)) .nil)) (.v _) ?_
  refine ACalls_intro Tryd.func53 (by kernel_rfl) rfl (by rw [Tryd.ntmps53]; simp) (fun hm => ?_)
  simp only [Tryd.ntmps53, Tryd.results53, List.length_cons, List.length_nil, Nat.reduceAdd, Nat.reduceSub, List.replicate_succ, List.replicate_zero, List.cons_append, List.nil_append]
  refine AWp_seqK fun Y0 y0 => ?_
  refine AWp_region ?_
  simp only [↓bO, go_sem, seval, h]
  refine y0 _ ?_
  try clear y0 Y0
  refine AWp_seqK fun Y0 y0 => ?_
  refine AWp_region ?_
  iterate 3 (refine aops_chunk 1 fun Q0 q0 => ?_; simp only [↓bO, go_sem, seval, h]; refine q0 _ ?_; clear q0 Q0; simp only [go_sem])
  simp only [↓bO, go_sem, seval, h]
  refine y0 _ ?_
  try clear y0 Y0
  refine AWp_ret ?_
  try simp only [thenQ, blockQ, noGotoQ, retQ, aRes, tupOf, bS, bA]
  exact Le.refl _
def freshC (s : Sch) (n : Int) : Ty × Int × Int := if s.ok = false then (.mk 0 0 [], 0, 1) else if n < 0 ∨ n > 1073741824 - (s.vs.length : Int) then (.mk 0 0 [], 0, 14) else (s.t.sub (callB s.vs ((List.range s.vs.length).map fun i : Nat => n + (i : Int))), n + (s.vs.length : Int), 0)
theorem SFresh_pure (s : Sch) (n : Int) (hc : s.t.cnt ≤ 1048576) (hv : s.vs.length ≤ 1048576) : APure Tryd.prog 25 [.agg s.cells, .v (.int .i64 n)] (.tup [.agg (freshC s n).1.cells, .v (.int .i64 (freshC s n).2.1), .v (.int .i64 (freshC s n).2.2)]) := by
  refine APure.mkL (.cons Sch.agg (.cons (.v _) .nil)) ((.tup (.cons (Ty.dataAgg _) (.cons (.v _) (.cons (.v _) .nil))))) ?_
  refine ACalls_intro Tryd.func25 (by kernel_rfl) rfl (by rw [Tryd.ntmps25]; simp) (fun hm => ?_)
  simp only [Tryd.ntmps25, Tryd.results25, List.length_cons, List.length_nil, Nat.reduceAdd, Nat.reduceSub, List.replicate_succ, List.replicate_zero, List.cons_append, List.nil_append]
  have hw1 : IntKind.i64.wrap (1073741824 - (s.vs.length : Int)) = 1073741824 - (s.vs.length : Int) := wrap_in (by omega) (by omega)
  refine AWp_joinZ (mB 32 28) ([(2, .eptr s.cells), (3, .eptr [.v (.int .i64 n)]), (4, .ptr 2 0)]) [(2, .cells 25 [.v (.int .i64 0), .v (.int .i64 0), .v (.slice none 0 0)])] 3 (True) ?_ (fun hC => ?_)
  ·
   refine AWp_region ?_
   iterate 4 (refine aops_chunk 1 fun Q0 q0 => ?_; simp only [↓bO, go_sem, seval, Sch.cells, hw1]; refine q0 _ ?_; clear q0 Q0; simp only [go_sem])
   simp only [↓bO, go_sem, seval, Sch.cells, hw1]
   try simp only [maskL, setsL, putsO, putO, mB, List.set_cons_zero, List.set_cons_succ, seval]
   first | refine ⟨trivial, ?_⟩ | skip
   refine Weak.freeze ?_ ⟨rfl, trivial⟩ (by first | omega | (simp only; omega)) (by first | omega | (simp only; omega)) ?_ ?_
   · repeat' first | trivial | exact .inr ⟨_, _, _, rfl, rfl, rfl, rfl⟩ | exact .inl (.refl _) | exact .inl (.any _) | (refine ⟨?_, ?_⟩)
   · repeat' first | exact trivial | exact .any _ | exact .v _ _ | exact .ptr (by omega) | exact Und.data (dataInts _) | exact Und.data (.eptr (.cons (.v _) .nil)) | exact Und.data Sch.eptr | exact Und.data Sch.agg | exact Und.data (Ty.dataSl _) | exact Und.data (.eptr (Ty.data _)) | exact Und.data (.eptr (.cons (dataInts _) .nil)) | exact .own (by omega) | (refine ⟨?_, ?_⟩)
   · repeat' first | exact trivial | (with_reducible omega) | exact Und.rowI (iD_data _) | exact UndL.data (Ty.data _) | exact UndL.data (Sch.data _) | exact .v _ _ | (refine ⟨?_, ?_⟩)
  simp only [maskL, setsL, putsO, putO, mB, List.set_cons_zero, List.set_cons_succ, seval]
  refine AWp_seqK fun Y0 y0 => ?_
  refine AWp_block ?_
  refine AWp_seqK fun Y1 y1 => ?_
  refine AWp_region ?_
  refine aops_chunk 1 fun Q0 q0 => ?_
  simp only [↓bO, go_sem, seval, Sch.cells, hw1]
  refine q0 _ ?_
  clear q0 Q0
  simp only [go_sem]
  refine aops_chunk 1 fun Q0 q0 => ?_
  simp only [↓bO, go_sem, seval, Sch.cells, hw1]
  refine APure.call (SRight_pure s hc (by omega)) ?_
  try simp only [bS, bA, thenQ, blockQ, noGotoQ]
  refine q0 _ ?_
  clear q0 Q0
  simp only [go_sem]
  refine aops_chunk 1 fun Q0 q0 => ?_
  simp only [↓bO, go_sem, seval, Sch.cells, hw1]
  refine q0 _ ?_
  clear q0 Q0
  simp only [go_sem]
  simp only [↓bO, go_sem, seval, Sch.cells, hw1]
  refine y1 _ ?_
  try clear y1 Y1
  refine AWp_cond rfl (fun hb7 => ?_) (fun hb7 => ?_)
  ·
   have hok : s.ok = false := by (have h9 := hb7; simpa using h9)
   refine AWp_seqK fun Y1 y1 => ?_
   refine AWp_region ?_
   iterate 3 (refine aops_chunk 1 fun Q0 q0 => ?_; simp only [↓bO, go_sem, seval, Sch.cells, hw1]; refine q0 _ ?_; clear q0 Q0; simp only [go_sem])
   simp only [↓bO, go_sem, seval, Sch.cells, hw1]
   refine y1 _ ?_
   try clear y1 Y1
   refine AWp_ret ?_
   try simp only [thenQ, blockQ, noGotoQ, retQ, aRes, tupOf, bS, bA, aLoad, getO, pack, bL, Nat.reduceAdd, Nat.reduceLeDiff, Nat.reduceEqDiff, ↓reduceIte, ti25, tyX, Sch.cells, List.length_map, hw1]
   unfold freshC
   rw [if_pos hok]; exact Le.tup ⟨zTyS_le, .refl _, .refl _, trivial⟩
  ·
   have hok : s.ok = true := by (have h9 := hb7; simpa using h9)
   refine AWp_joinM (mB 32 4124) ([(12, .v (.bool (decide (n < 0 ∨ n > 1073741824 - (s.vs.length : Int)))))]) ([]) ?_ ?_
   ·
    refine AWp_region ?_
    iterate 3 (refine aops_chunk 1 fun Q0 q0 => ?_; simp only [↓bO, go_sem, seval, Sch.cells, hw1]; refine q0 _ ?_; clear q0 Q0; simp only [go_sem])
    refine aops_case 15 rfl (fun hc15 => ?_) (fun hc15 => ?_)
    ·
     simp only [List.set_cons_zero, List.set_cons_succ]
     have hng : n < 0 := by simpa using hc15
     iterate 7 (refine aops_chunk 1 fun Q0 q0 => ?_; simp only [↓bO, go_sem, seval, Sch.cells, hw1]; refine q0 _ ?_; clear q0 Q0; simp only [go_sem])
     simp only [↓bO, go_sem, seval, Sch.cells, hw1]
     try simp only [maskL, setsL, putsO, putO, mB, List.set_cons_zero, List.set_cons_succ, seval]
     refine Weak.mk ?_ (fun _ _ h => h) rfl rfl
     simp only [go_sem, Le.refl, Le.any]
     all_goals (refine Le.of_eq (congrArg (fun b => AV.v (.bool b)) ?_); rw [Bool.eq_iff_iff]; simp [hng])
    ·
     simp only [List.set_cons_zero, List.set_cons_succ]
     have hng : ¬ n < 0 := by (have h9 := hc15; simp at h9; omega)
     iterate 7 (refine aops_chunk 1 fun Q0 q0 => ?_; simp only [↓bO, go_sem, seval, Sch.cells, hw1]; refine q0 _ ?_; clear q0 Q0; simp only [go_sem])
     simp only [↓bO, go_sem, seval, Sch.cells, hw1]
     try simp only [maskL, setsL, putsO, putO, mB, List.set_cons_zero, List.set_cons_succ, seval]
     refine Weak.mk ?_ (fun _ _ h => h) rfl rfl
     simp only [go_sem, Le.refl, Le.any]
     all_goals (refine Le.of_eq (congrArg (fun b => AV.v (.bool b)) ?_); rw [Bool.eq_iff_iff]; simp [hng])
   simp only [maskL, setsL, putsO, putO, mB, List.set_cons_zero, List.set_cons_succ, seval]
   refine AWp_cond rfl (fun hb12 => ?_) (fun hb12 => ?_)
   ·
    have hrg : n < 0 ∨ n > 1073741824 - (s.vs.length : Int) := by (first | exact of_decide_eq_true hb12 | simpa using hb12)
    refine AWp_seqK fun Y1 y1 => ?_
    refine AWp_region ?_
    iterate 3 (refine aops_chunk 1 fun Q0 q0 => ?_; simp only [↓bO, go_sem, seval, Sch.cells, hw1]; refine q0 _ ?_; clear q0 Q0; simp only [go_sem])
    simp only [↓bO, go_sem, seval, Sch.cells, hw1]
    refine y1 _ ?_
    try clear y1 Y1
    refine AWp_ret ?_
    try simp only [thenQ, blockQ, noGotoQ, retQ, aRes, tupOf, bS, bA, aLoad, getO, pack, bL, Nat.reduceAdd, Nat.reduceLeDiff, Nat.reduceEqDiff, ↓reduceIte, ti25, tyX, Sch.cells, List.length_map, hw1]
    unfold freshC
    rw [if_neg (by rw [hok]; decide), if_pos hrg]; exact Le.tup ⟨zTyS_le, .refl _, .refl _, trivial⟩
   ·
    have hrg : ¬ (n < 0 ∨ n > 1073741824 - (s.vs.length : Int)) := by (first | exact of_decide_eq_false hb12 | (have h9 := hb12; simpa using h9))
    have hw2 : IntKind.i64.wrap (n + (s.vs.length : Int)) = n + (s.vs.length : Int) := wrap_in (by omega) (by omega)
    refine AWp_skip ?_
    try simp only [thenQ, blockQ, noGotoQ]
    refine y0 _ ?_
    try clear y0 Y0
    refine AWp_seqK fun Y0 y0 => ?_
    refine NAny_start 11 [2, 3] rfl mixed ?_
    dsimp only
    refine NAny_takeK 0 rfl (by kernel_rfl) (by kernel_rfl) (by kernel_rfl) (fun _ _ h => h) (by kernel_rfl) (fun d h => by cases h; rfl) (by kernel_rfl) (G' := [24, 2, 3]) (by kernel_rfl) fun Q0 q0 => ?_
    simp only [↓bO, go_sem, seval, nHead, isE, isSE, isV, Sch.cells, hw1, hw2]
    refine q0 _ ?_
    clear q0 Q0
    refine NAny_takeK 3 rfl (by kernel_rfl) (by kernel_rfl) (by kernel_rfl) (fun _ _ h => h) (by kernel_rfl) (fun d h => by cases h; rfl) (by kernel_rfl) (G' := [27, 24, 2, 3]) (by kernel_rfl) fun Q0 q0 => ?_
    simp only [↓bO, go_sem, seval, nHead, isE, isSE, isV, Sch.cells, hw1, hw2]
    refine q0 _ ?_
    clear q0 Q0
    refine NAny_takeK 4 rfl (by kernel_rfl) (by kernel_rfl) (by kernel_rfl) (fun _ _ h => h) (by kernel_rfl) (fun d h => by cases h; rfl) (by kernel_rfl) (G' := [28, 27, 24, 2, 3]) (by kernel_rfl) fun Q0 q0 => ?_
    simp only [↓bO, go_sem, seval, nHead, isE, isSE, isV, Sch.cells, hw1, hw2]
    refine q0 _ ?_
    clear q0 Q0
    refine NAny_takeK 5 rfl (by kernel_rfl) (by kernel_rfl) (by kernel_rfl) (fun _ _ h => h) (by kernel_rfl) (fun d h => by cases h; rfl) (by kernel_rfl) (G' := [29, 28, 27, 24, 2, 3]) (by kernel_rfl) fun Q0 q0 => ?_
    simp only [↓bO, go_sem, seval, nHead, isE, isSE, isV, Sch.cells, hw1, hw2]
    refine q0 _ ?_
    clear q0 Q0
    refine NAny_takeQ 6 rfl (by kernel_rfl) (by kernel_rfl) (by kernel_rfl) (fun _ _ h => h) (fun d h => by cases h; rfl) fun Q0 q0 => ?_
    simp only [↓bO, go_sem, seval, Sch.cells, hw1, hw2]
    refine q0 _ ?_
    clear q0 Q0
    refine NAny_all2 (i := 1) (j := 7) (by kernel_rfl) rfl rfl (fun d h => by cases h; rfl) (fun d h => by cases h; rfl) ?_ ?_
    ·
     refine aAt_op rfl rfl fun Q0 q0 => ?_
     simp only [↓bO, go_sem, seval, Sch.cells, hw1, hw2]
     refine q0 _ ⟨⟨rfl, rfl, rfl, rfl, rfl, rfl, trivial⟩, ?_⟩
     clear q0 Q0
     refine NAny_all2 (i := 2) (j := 7) (by kernel_rfl) rfl rfl (fun d h => by cases h; rfl) (fun d h => by cases h; rfl) ?_ ?_
     ·
      refine aAt_op rfl rfl fun Q0 q0 => ?_
      simp only [↓bO, go_sem, seval, Sch.cells, hw1, hw2]
      refine APure.call (called_pure s (fun i : Nat => n + (i : Int)) 53 [.eptr [.v (.int .i64 n)]] hok hv hc (.cons (.eptr (.cons (.v _) .nil)) .nil) (fun i hi => Fresh1_pure n i (wrap_in (by omega) (by omega)))) ?_
      try simp only [bS, bA]
      refine q0 _ ⟨⟨rfl, rfl, rfl, rfl, rfl, rfl, trivial⟩, ?_⟩
      clear q0 Q0
      refine NAny_all2 (i := 7) (j := 8) (by kernel_rfl) rfl rfl (fun d h => by cases h; rfl) (fun d h => by cases h) ?_ ?_
      ·
       refine aAt_op rfl rfl fun Q0 q0 => ?_
       simp only [↓bO, go_sem, seval, Sch.cells, hw1, hw2]
       refine q0 _ ⟨⟨rfl, rfl, rfl, rfl, rfl, rfl, trivial⟩, ?_⟩
       clear q0 Q0
       refine NAny_all1 (i := 8) (by kernel_rfl) rfl (fun d h => by cases h) ?_
       refine aAt_op rfl rfl fun Q0 q0 => ?_
       simp only [↓bO, go_sem, seval, Sch.cells, hw1, hw2]
       refine q0 _ ⟨⟨rfl, rfl, rfl, rfl, rfl, rfl, trivial⟩, ?_⟩
       clear q0 Q0
       refine NAny_takeQ 9 rfl (by kernel_rfl) (by kernel_rfl) (by kernel_rfl) (fun _ _ h => h) (fun d h => by cases h; rfl) fun Q0 q0 => ?_
       simp only [↓bO, go_sem, seval, Sch.cells, hw1, hw2]
       refine q0 _ ?_
       clear q0 Q0
       refine NAny_takeQ 10 rfl (by kernel_rfl) (by kernel_rfl) (by kernel_rfl) (fun _ _ h => h) (fun d h => by cases h; rfl) fun Q0 q0 => ?_
       simp only [↓bO, go_sem, seval, Sch.cells, hw1, hw2]
       refine q0 _ ?_
       clear q0 Q0
       refine NAny_done (by kernel_rfl) ?_
       simp only [thenQ, blockQ, noGotoQ]
       refine y0 _ ?_
       try clear y0 Y0
       refine AWp_ret ?_
       try simp only [thenQ, blockQ, noGotoQ, retQ, aRes, tupOf, bS, bA, aLoad, getO, pack, bL, Nat.reduceAdd, Nat.reduceLeDiff, Nat.reduceEqDiff, ↓reduceIte, ti25, tyX, Sch.cells, List.length_map, hw1, hw2]
       unfold freshC
       rw [if_neg (by rw [hok]; decide), if_neg hrg]; exact Le.refl _
      ·
       refine aAt_op rfl rfl fun Q0 q0 => ?_
       simp only [↓bO, go_sem, seval, Sch.cells, hw1, hw2]
       refine q0 _ ⟨⟨rfl, rfl, rfl, rfl, rfl, rfl, trivial⟩, ?_⟩
       clear q0 Q0
       refine NAny_all1 (i := 7) (by kernel_rfl) rfl (fun d h => by cases h; rfl) ?_
       refine aAt_op rfl rfl fun Q0 q0 => ?_
       simp only [↓bO, go_sem, seval, Sch.cells, hw1, hw2]
       refine q0 _ ⟨⟨rfl, rfl, rfl, rfl, rfl, rfl, trivial⟩, ?_⟩
       clear q0 Q0
       refine NAny_takeQ 9 rfl (by kernel_rfl) (by kernel_rfl) (by kernel_rfl) (fun _ _ h => h) (fun d h => by cases h; rfl) fun Q0 q0 => ?_
       simp only [↓bO, go_sem, seval, Sch.cells, hw1, hw2]
       refine q0 _ ?_
       clear q0 Q0
       refine NAny_takeQ 10 rfl (by kernel_rfl) (by kernel_rfl) (by kernel_rfl) (fun _ _ h => h) (fun d h => by cases h; rfl) fun Q0 q0 => ?_
       simp only [↓bO, go_sem, seval, Sch.cells, hw1, hw2]
       refine q0 _ ?_
       clear q0 Q0
       refine NAny_done (by kernel_rfl) ?_
       simp only [thenQ, blockQ, noGotoQ]
       refine y0 _ ?_
       try clear y0 Y0
       refine AWp_ret ?_
       try simp only [thenQ, blockQ, noGotoQ, retQ, aRes, tupOf, bS, bA, aLoad, getO, pack, bL, Nat.reduceAdd, Nat.reduceLeDiff, Nat.reduceEqDiff, ↓reduceIte, ti25, tyX, Sch.cells, List.length_map, hw1, hw2]
       unfold freshC
       rw [if_neg (by rw [hok]; decide), if_neg hrg]; exact Le.refl _
     ·
      refine aAt_op rfl rfl fun Q0 q0 => ?_
      simp only [↓bO, go_sem, seval, Sch.cells, hw1, hw2]
      refine q0 _ ⟨⟨rfl, rfl, rfl, rfl, rfl, rfl, trivial⟩, ?_⟩
      clear q0 Q0
      refine NAny_all1 (i := 2) (by kernel_rfl) rfl (fun d h => by cases h; rfl) ?_
      refine aAt_op rfl rfl fun Q0 q0 => ?_
      simp only [↓bO, go_sem, seval, Sch.cells, hw1, hw2]
      refine APure.call (called_pure s (fun i : Nat => n + (i : Int)) 53 [.eptr [.v (.int .i64 n)]] hok hv hc (.cons (.eptr (.cons (.v _) .nil)) .nil) (fun i hi => Fresh1_pure n i (wrap_in (by omega) (by omega)))) ?_
      try simp only [bS, bA]
      refine q0 _ ⟨⟨rfl, rfl, rfl, rfl, rfl, rfl, trivial⟩, ?_⟩
      clear q0 Q0
      refine NAny_all1 (i := 8) (by kernel_rfl) rfl (fun d h => by cases h) ?_
      refine aAt_op rfl rfl fun Q0 q0 => ?_
      simp only [↓bO, go_sem, seval, Sch.cells, hw1, hw2]
      refine q0 _ ⟨⟨rfl, rfl, rfl, rfl, rfl, rfl, trivial⟩, ?_⟩
      clear q0 Q0
      refine NAny_takeQ 9 rfl (by kernel_rfl) (by kernel_rfl) (by kernel_rfl) (fun _ _ h => h) (fun d h => by cases h; rfl) fun Q0 q0 => ?_
      simp only [↓bO, go_sem, seval, Sch.cells, hw1, hw2]
      refine q0 _ ?_
      clear q0 Q0
      refine NAny_takeQ 10 rfl (by kernel_rfl) (by kernel_rfl) (by kernel_rfl) (fun _ _ h => h) (fun d h => by cases h; rfl) fun Q0 q0 => ?_
      simp only [↓bO, go_sem, seval, Sch.cells, hw1, hw2]
      refine q0 _ ?_
      clear q0 Q0
      refine NAny_done (by kernel_rfl) ?_
      simp only [thenQ, blockQ, noGotoQ]
      refine y0 _ ?_
      try clear y0 Y0
      refine AWp_ret ?_
      try simp only [thenQ, blockQ, noGotoQ, retQ, aRes, tupOf, bS, bA, aLoad, getO, pack, bL, Nat.reduceAdd, Nat.reduceLeDiff, Nat.reduceEqDiff, ↓reduceIte, ti25, tyX, Sch.cells, List.length_map, hw1, hw2]
      unfold freshC
      rw [if_neg (by rw [hok]; decide), if_neg hrg]; exact Le.refl _
    ·
     refine aAt_op rfl rfl fun Q0 q0 => ?_
     simp only [↓bO, go_sem, seval, Sch.cells, hw1, hw2]
     refine q0 _ ⟨⟨rfl, rfl, rfl, rfl, rfl, rfl, trivial⟩, ?_⟩
     clear q0 Q0
     refine NAny_all1 (i := 1) (by kernel_rfl) rfl (fun d h => by cases h; rfl) ?_
     refine aAt_op rfl rfl fun Q0 q0 => ?_
     simp only [↓bO, go_sem, seval, Sch.cells, hw1, hw2]
     refine q0 _ ⟨⟨rfl, rfl, rfl, rfl, rfl, rfl, trivial⟩, ?_⟩
     clear q0 Q0
     refine NAny_all1 (i := 2) (by kernel_rfl) rfl (fun d h => by cases h; rfl) ?_
     refine aAt_op rfl rfl fun Q0 q0 => ?_
     simp only [↓bO, go_sem, seval, Sch.cells, hw1, hw2]
     refine APure.call (called_pure s (fun i : Nat => n + (i : Int)) 53 [.eptr [.v (.int .i64 n)]] hok hv hc (.cons (.eptr (.cons (.v _) .nil)) .nil) (fun i hi => Fresh1_pure n i (wrap_in (by omega) (by omega)))) ?_
     try simp only [bS, bA]
     refine q0 _ ⟨⟨rfl, rfl, rfl, rfl, rfl, rfl, trivial⟩, ?_⟩
     clear q0 Q0
     refine NAny_all1 (i := 8) (by kernel_rfl) rfl (fun d h => by cases h) ?_
     refine aAt_op rfl rfl fun Q0 q0 => ?_
     simp only [↓bO, go_sem, seval, Sch.cells, hw1, hw2]
     refine q0 _ ⟨⟨rfl, rfl, rfl, rfl, rfl, rfl, trivial⟩, ?_⟩
     clear q0 Q0
     refine NAny_takeQ 9 rfl (by kernel_rfl) (by kernel_rfl) (by kernel_rfl) (fun _ _ h => h) (fun d h => by cases h; rfl) fun Q0 q0 => ?_
     simp only [↓bO, go_sem, seval, Sch.cells, hw1, hw2]
     refine q0 _ ?_
     clear q0 Q0
     refine NAny_takeQ 10 rfl (by kernel_rfl) (by kernel_rfl) (by kernel_rfl) (fun _ _ h => h) (fun d h => by cases h; rfl) fun Q0 q0 => ?_
     simp only [↓bO, go_sem, seval, Sch.cells, hw1, hw2]
     refine q0 _ ?_
     clear q0 Q0
     refine NAny_done (by kernel_rfl) ?_
     simp only [thenQ, blockQ, noGotoQ]
     refine y0 _ ?_
     try clear y0 Y0
     refine AWp_ret ?_
     try simp only [thenQ, blockQ, noGotoQ, retQ, aRes, tupOf, bS, bA, aLoad, getO, pack, bL, Nat.reduceAdd, Nat.reduceLeDiff, Nat.reduceEqDiff, ↓reduceIte, ti25, tyX, Sch.cells, List.length_map, hw1, hw2]
     unfold freshC
     rw [if_neg (by rw [hok]; decide), if_neg hrg]; exact Le.refl _
theorem Ty.same_reflS (t : Ty) : t.same t = true := (Ty.same_iff _ _).2 rfl
theorem zTyS_data : Data (.agg [.v (.int .i64 0), .v (.int .i64 0), .v (.slice none 0 0)]) := .agg (.cons (.v _) (.cons (.v _) (.cons (.v _) .nil)))
theorem Sch.great_spec {s : Sch} (h : s.great = false) : s.t.cnt ≤ 300 ∧ s.vs.length ≤ 40 := by
  unfold Sch.great at h
  rw [Bool.or_eq_false_iff, decide_eq_false_iff_not] at h
  exact ⟨Ty.great_cnt h.1, by omega⟩
theorem fresh_no {s : Sch} (n : Int) (h : s.ok = false) : freshC s n = (.mk 0 0 [], 0, 1) := by unfold freshC; rw [if_pos h]
theorem fresh_range {s : Sch} {n : Int} (h : s.ok = true) (hr : n < 0 ∨ n > 1073741824 - (s.vs.length : Int)) : freshC s n = (.mk 0 0 [], 0, 14) := by unfold freshC; rw [if_neg (by rw [h]; decide), if_pos hr]
theorem fresh_yes {s : Sch} {n : Int} (h : s.ok = true) (hr : ¬ (n < 0 ∨ n > 1073741824 - (s.vs.length : Int))) : freshC s n = (s.t.sub (callB s.vs ((List.range s.vs.length).map fun i : Nat => n + (i : Int))), n + (s.vs.length : Int), 0) := by unfold freshC; rw [if_neg (by rw [h]; decide), if_neg hr]
theorem names_step {k : Nat} {n : Int} {z : Nat} (h : z < k) : (((List.range k).map fun i : Nat => n + (i : Int)).take (z + 1)) = (((List.range k).map fun i : Nat => n + (i : Int)).take z) ++ [n + (z : Int)] := by
  rw [List.take_add_one]
  congr 1
  simp [h]
theorem SchemeFresh_pure (s : Sch) (n : Int) (hA : APure Tryd.prog 8 [] (.v (.bool true))) : APure Tryd.prog 6 [.agg s.cells, .v (.int .i64 n)] (.v (.bool true)) := by
  refine APure.mkL (.cons Sch.agg (.cons (.v _) .nil)) (.v _) ?_
  refine ACalls_intro Tryd.func6 (by kernel_rfl) rfl (by rw [Tryd.ntmps6]; simp) (fun hm => ?_)
  simp only [Tryd.ntmps6, Tryd.results6, List.length_cons, List.length_nil, Nat.reduceAdd, Nat.reduceSub, List.replicate_succ, List.replicate_zero, List.cons_append, List.nil_append]
  refine AWp_joinZ (mB 96 6) ([(2, .eptr s.cells)]) [] 0 (True) ?_ (fun hC => ?_)
  ·
   refine AWp_region ?_
   refine aops_chunk 1 fun Q0 q0 => ?_
   simp only [↓bO, go_sem, seval, Sch.cells]
   refine q0 _ ?_
   clear q0 Q0
   simp only [go_sem]
   simp only [↓bO, go_sem, seval, Sch.cells]
   try simp only [maskL, setsL, putsO, putO, mB, List.set_cons_zero, List.set_cons_succ, seval]
   first | refine ⟨trivial, ?_⟩ | skip
   refine Weak.freeze ?_ trivial (by first | omega | (simp only; omega)) (by first | omega | (simp only; omega)) ?_ ?_
   · repeat' first | trivial | exact .inr ⟨_, _, _, rfl, rfl, rfl, rfl⟩ | exact .inl (.refl _) | exact .inl (.any _) | (refine ⟨?_, ?_⟩)
   · repeat' first | exact trivial | exact .any _ | exact .v _ _ | exact .ptr (by omega) | exact Und.data (dataInts _) | exact Und.data Sch.eptr | exact Und.data Sch.agg | exact Und.data (Ty.dataSl _) | exact Und.data (.eptr (Ty.data _)) | exact Und.data (.eptr (.cons (dataInts _) .nil)) | exact .own (by omega) | (refine ⟨?_, ?_⟩)
   · repeat' first | exact trivial | (with_reducible omega) | exact Und.rowI (iD_data _) | exact UndL.data (Ty.data _) | exact UndL.data (Sch.data _) | exact .v _ _ | (refine ⟨?_, ?_⟩)
  simp only [maskL, setsL, putsO, putO, mB, List.set_cons_zero, List.set_cons_succ, seval]
  refine AWp_seqK fun Y0 y0 => ?_
  refine AWp_seqK fun Y1 y1 => ?_
  refine AWp_region ?_
  refine aops_chunk 1 fun Q0 q0 => ?_
  simp only [↓bO, go_sem, seval, Sch.cells]
  refine q0 _ ?_
  clear q0 Q0
  simp only [go_sem]
  simp only [↓bO, go_sem, seval, Sch.cells]
  refine APure.call (Great16_pure s) ?_
  try simp only [bS, bA, thenQ, blockQ, noGotoQ]
  refine y1 _ ?_
  try clear y1 Y1
  refine AWp_cond rfl (fun hb11 => ?_) (fun hb11 => ?_)
  ·
   refine AWp_seqK fun Y1 y1 => ?_
   refine AWp_region ?_
   refine aops_chunk 1 fun Q0 q0 => ?_
   simp only [↓bO, go_sem, seval, Sch.cells]
   refine APure.call (hA) ?_
   try simp only [bS, bA, thenQ, blockQ, noGotoQ]
   refine q0 _ ?_
   clear q0 Q0
   simp only [go_sem]
   simp only [↓bO, go_sem, seval, Sch.cells]
   refine y1 _ ?_
   try clear y1 Y1
   refine AWp_ret ?_
   try simp only [thenQ, blockQ, noGotoQ, retQ, aRes, tupOf, bS, bA]
   exact Le.refl _
  ·
   have hgs := Sch.great_spec (by first | exact hb11 | simpa using hb11)
   have hw1 : IntKind.i64.wrap (1073741824 - (s.vs.length : Int)) = 1073741824 - (s.vs.length : Int) := wrap_in (by omega) (by omega)
   refine AWp_skip ?_
   try simp only [thenQ, blockQ, noGotoQ]
   refine y0 _ ?_
   try clear y0 Y0
   refine AWp_joinZ (mB 96 230) ([(5, .eptr (freshC s n).1.cells), (6, .v (.int .i64 (freshC s n).2.1)), (7, .v (.int .i64 (freshC s n).2.2))]) [] 0 (True) ?_ (fun hC => ?_)
   ·
    refine AWp_region ?_
    refine aops_chunk 1 fun Q0 q0 => ?_
    simp only [↓bO, go_sem, seval, Sch.cells, hw1]
    refine q0 _ ?_
    clear q0 Q0
    simp only [go_sem]
    refine aops_chunk 1 fun Q0 q0 => ?_
    simp only [↓bO, go_sem, seval, Sch.cells, hw1]
    refine APure.call (Own16_pure s) ?_
    try simp only [bS, bA, thenQ, blockQ, noGotoQ]
    iterate 2 (refine q0 _ ?_; clear q0 Q0; simp only [go_sem]; refine aops_chunk 1 fun Q0 q0 => ?_; simp only [↓bO, go_sem, seval, Sch.cells, hw1])
    refine APure.call (SFresh_pure s n (by omega) (by omega)) ?_
    try simp only [bS, bA, thenQ, blockQ, noGotoQ]
    iterate 7 (refine q0 _ ?_; clear q0 Q0; simp only [go_sem]; refine aops_chunk 1 fun Q0 q0 => ?_; simp only [↓bO, go_sem, seval, Sch.cells, hw1])
    refine q0 _ ?_
    clear q0 Q0
    simp only [go_sem]
    simp only [↓bO, go_sem, seval, Sch.cells, hw1]
    try simp only [maskL, setsL, putsO, putO, mB, List.set_cons_zero, List.set_cons_succ, seval]
    first | refine ⟨trivial, ?_⟩ | skip
    refine Weak.freeze ?_ trivial (by first | omega | (simp only; omega)) (by first | omega | (simp only; omega)) ?_ ?_
    · repeat' first | trivial | exact .inr ⟨_, _, _, rfl, rfl, rfl, rfl⟩ | exact .inl (.refl _) | exact .inl (.any _) | (refine ⟨?_, ?_⟩)
    · repeat' first | exact trivial | exact .any _ | exact .v _ _ | exact .ptr (by omega) | exact Und.data (dataInts _) | exact Und.data Sch.eptr | exact Und.data Sch.agg | exact Und.data (Ty.dataSl _) | exact Und.data (.eptr (Ty.data _)) | exact Und.data (.eptr (.cons (dataInts _) .nil)) | exact .own (by omega) | (refine ⟨?_, ?_⟩)
    · repeat' first | exact trivial | (with_reducible omega) | exact Und.rowI (iD_data _) | exact UndL.data (Ty.data _) | exact UndL.data (Sch.data _) | exact .v _ _ | (refine ⟨?_, ?_⟩)
   simp only [maskL, setsL, putsO, putO, mB, List.set_cons_zero, List.set_cons_succ, seval]
   refine AWp_seqK fun Y0 y0 => ?_
   refine AWp_seqK fun Y1 y1 => ?_
   refine AWp_region ?_
   refine aops_chunk 1 fun Q0 q0 => ?_
   simp only [↓bO, go_sem, seval, Sch.cells, hw1]
   refine q0 _ ?_
   clear q0 Q0
   simp only [go_sem]
   refine aops_chunk 1 fun Q0 q0 => ?_
   simp only [↓bO, go_sem, seval, Sch.cells, hw1]
   refine APure.call (Right16_pure s (by omega)) ?_
   try simp only [bS, bA, thenQ, blockQ, noGotoQ]
   refine q0 _ ?_
   clear q0 Q0
   simp only [go_sem]
   simp only [↓bO, go_sem, seval, Sch.cells, hw1]
   refine y1 _ ?_
   try clear y1 Y1
   refine AWp_cond rfl (fun hb23 => ?_) (fun hb23 => ?_)
   ·
    have hok : s.ok = false := by simpa using hb23
    have hfc := fresh_no n hok
    refine AWp_seqK fun Y1 y1 => ?_
    refine AWp_region ?_
    iterate 3 (refine aops_chunk 1 fun Q0 q0 => ?_; simp only [↓bO, go_sem, seval, Sch.cells, hw1]; refine q0 _ ?_; clear q0 Q0; simp only [go_sem])
    refine aops_case 26 rfl (fun hc26 => ?_) (fun hc26 => ?_)
    ·
     simp only [List.set_cons_zero, List.set_cons_succ]
     iterate 4 (refine aops_chunk 1 fun Q0 q0 => ?_; simp only [↓bO, go_sem, seval, Sch.cells, hw1]; refine q0 _ ?_; clear q0 Q0; simp only [go_sem])
     refine aops_case 30 rfl (fun hc30 => ?_) (fun hc30 => ?_)
     ·
      simp only [List.set_cons_zero, List.set_cons_succ]
      iterate 2 (refine aops_chunk 1 fun Q0 q0 => ?_; simp only [↓bO, go_sem, seval, Sch.cells, hw1]; refine q0 _ ?_; clear q0 Q0; simp only [go_sem])
      refine aops_chunk 1 fun Q0 q0 => ?_
      simp only [↓bO, go_sem, seval, Sch.cells, hw1]
      refine APure.call ((show APure Tryd.prog 26 [.agg (freshC s n).1.cells, .agg [.v (.int .i64 0), .v (.int .i64 0), .v (.slice none 0 0)]] (.v (.bool ((freshC s n).1.same (.mk 0 0 [])))) from (Same_pure (freshC s n).1 (.mk 0 0 [])).le ⟨.refl _, zTyS_le, trivial⟩ (.cons (Ty.dataAgg _) (.cons zTyS_data .nil)))) ?_
      try simp only [bS, bA, thenQ, blockQ, noGotoQ]
      iterate 2 (refine q0 _ ?_; clear q0 Q0; simp only [go_sem]; refine aops_chunk 1 fun Q0 q0 => ?_; simp only [↓bO, go_sem, seval, Sch.cells, hw1])
      refine q0 _ ?_
      clear q0 Q0
      simp only [go_sem]
      refine aops_case 35 rfl (fun hc35 => ?_) (fun hc35 => ?_)
      ·
       simp only [List.set_cons_zero, List.set_cons_succ]
       refine aops_chunk 1 fun Q0 q0 => ?_
       simp only [↓bO, go_sem, seval, Sch.cells, hw1]
       refine APure.call (hA) ?_
       try simp only [bS, bA, thenQ, blockQ, noGotoQ]
       refine q0 _ ?_
       clear q0 Q0
       simp only [go_sem]
       refine aops_chunk 1 fun Q0 q0 => ?_
       simp only [↓bO, go_sem, seval, Sch.cells, hw1]
       refine q0 _ ?_
       clear q0 Q0
       simp only [go_sem]
       simp only [↓bO, go_sem, seval, Sch.cells, hw1]
       refine y1 _ ?_
       try clear y1 Y1
       refine AWp_ret ?_
       try simp only [thenQ, blockQ, noGotoQ, retQ, aRes, tupOf, bS, bA]
       exact Le.refl _
      ·
       simp only [List.set_cons_zero, List.set_cons_succ]
       exact absurd hc35 (by rw [hfc, Ty.same_reflS]; decide)
     ·
      simp only [List.set_cons_zero, List.set_cons_succ]
      exact absurd hc30 (by rw [hfc]; decide)
    ·
     simp only [List.set_cons_zero, List.set_cons_succ]
     exact absurd hc26 (by rw [hfc]; decide)
   ·
    have hok : s.ok = true := by simpa using hb23
    refine AWp_skip ?_
    try simp only [thenQ, blockQ, noGotoQ]
    refine y0 _ ?_
    try clear y0 Y0
    refine AWp_seqK fun Y0 y0 => ?_
    refine AWp_joinM (mB 96 140737488355558) ([(47, .v (.bool (decide (n < 0 ∨ n > 1073741824 - (s.vs.length : Int)))))]) ([]) ?_ ?_
    ·
     refine AWp_region ?_
     iterate 3 (refine aops_chunk 1 fun Q0 q0 => ?_; simp only [↓bO, go_sem, seval, Sch.cells, hw1]; refine q0 _ ?_; clear q0 Q0; simp only [go_sem])
     refine aops_case 40 rfl (fun hc40 => ?_) (fun hc40 => ?_)
     ·
      simp only [List.set_cons_zero, List.set_cons_succ]
      have hng : n < 0 := by simpa using hc40
      iterate 6 (refine aops_chunk 1 fun Q0 q0 => ?_; simp only [↓bO, go_sem, seval, Sch.cells, hw1]; refine q0 _ ?_; clear q0 Q0; simp only [go_sem])
      simp only [↓bO, go_sem, seval, Sch.cells, hw1]
      try simp only [maskL, setsL, putsO, putO, mB, List.set_cons_zero, List.set_cons_succ, seval]
      refine Weak.mk ?_ (fun _ _ h => h) rfl rfl
      simp only [go_sem, Le.refl, Le.any]
      all_goals (refine Le.of_eq (congrArg (fun b => AV.v (.bool b)) ?_); rw [Bool.eq_iff_iff]; simp [hng])
     ·
      simp only [List.set_cons_zero, List.set_cons_succ]
      have hng : ¬ n < 0 := by (have h9 := hc40; simp at h9; omega)
      iterate 6 (refine aops_chunk 1 fun Q0 q0 => ?_; simp only [↓bO, go_sem, seval, Sch.cells, hw1]; refine q0 _ ?_; clear q0 Q0; simp only [go_sem])
      simp only [↓bO, go_sem, seval, Sch.cells, hw1]
      try simp only [maskL, setsL, putsO, putO, mB, List.set_cons_zero, List.set_cons_succ, seval]
      refine Weak.mk ?_ (fun _ _ h => h) rfl rfl
      simp only [go_sem, Le.refl, Le.any]
      all_goals (refine Le.of_eq (congrArg (fun b => AV.v (.bool b)) ?_); rw [Bool.eq_iff_iff]; simp [hng])
    simp only [maskL, setsL, putsO, putO, mB, List.set_cons_zero, List.set_cons_succ, seval]
    refine AWp_cond rfl (fun hb47 => ?_) (fun hb47 => ?_)
    ·
     have hrg : n < 0 ∨ n > 1073741824 - (s.vs.length : Int) := by (first | exact of_decide_eq_true hb47 | simpa using hb47)
     have hfc := fresh_range hok hrg
     refine AWp_seqK fun Y1 y1 => ?_
     refine AWp_region ?_
     iterate 3 (refine aops_chunk 1 fun Q0 q0 => ?_; simp only [↓bO, go_sem, seval, Sch.cells, hw1]; refine q0 _ ?_; clear q0 Q0; simp only [go_sem])
     refine aops_case 50 rfl (fun hc50 => ?_) (fun hc50 => ?_)
     ·
      simp only [List.set_cons_zero, List.set_cons_succ]
      iterate 4 (refine aops_chunk 1 fun Q0 q0 => ?_; simp only [↓bO, go_sem, seval, Sch.cells, hw1]; refine q0 _ ?_; clear q0 Q0; simp only [go_sem])
      refine aops_case 54 rfl (fun hc54 => ?_) (fun hc54 => ?_)
      ·
       simp only [List.set_cons_zero, List.set_cons_succ]
       iterate 2 (refine aops_chunk 1 fun Q0 q0 => ?_; simp only [↓bO, go_sem, seval, Sch.cells, hw1]; refine q0 _ ?_; clear q0 Q0; simp only [go_sem])
       refine aops_chunk 1 fun Q0 q0 => ?_
       simp only [↓bO, go_sem, seval, Sch.cells, hw1]
       refine APure.call ((show APure Tryd.prog 26 [.agg (freshC s n).1.cells, .agg [.v (.int .i64 0), .v (.int .i64 0), .v (.slice none 0 0)]] (.v (.bool ((freshC s n).1.same (.mk 0 0 [])))) from (Same_pure (freshC s n).1 (.mk 0 0 [])).le ⟨.refl _, zTyS_le, trivial⟩ (.cons (Ty.dataAgg _) (.cons zTyS_data .nil)))) ?_
       try simp only [bS, bA, thenQ, blockQ, noGotoQ]
       iterate 2 (refine q0 _ ?_; clear q0 Q0; simp only [go_sem]; refine aops_chunk 1 fun Q0 q0 => ?_; simp only [↓bO, go_sem, seval, Sch.cells, hw1])
       refine q0 _ ?_
       clear q0 Q0
       simp only [go_sem]
       refine aops_case 59 rfl (fun hc59 => ?_) (fun hc59 => ?_)
       ·
        simp only [List.set_cons_zero, List.set_cons_succ]
        refine aops_chunk 1 fun Q0 q0 => ?_
        simp only [↓bO, go_sem, seval, Sch.cells, hw1]
        refine APure.call (hA) ?_
        try simp only [bS, bA, thenQ, blockQ, noGotoQ]
        refine q0 _ ?_
        clear q0 Q0
        simp only [go_sem]
        refine aops_chunk 1 fun Q0 q0 => ?_
        simp only [↓bO, go_sem, seval, Sch.cells, hw1]
        refine q0 _ ?_
        clear q0 Q0
        simp only [go_sem]
        simp only [↓bO, go_sem, seval, Sch.cells, hw1]
        refine y1 _ ?_
        try clear y1 Y1
        refine AWp_ret ?_
        try simp only [thenQ, blockQ, noGotoQ, retQ, aRes, tupOf, bS, bA]
        exact Le.refl _
       ·
        simp only [List.set_cons_zero, List.set_cons_succ]
        exact absurd hc59 (by rw [hfc, Ty.same_reflS]; decide)
      ·
       simp only [List.set_cons_zero, List.set_cons_succ]
       exact absurd hc54 (by rw [hfc]; decide)
     ·
      simp only [List.set_cons_zero, List.set_cons_succ]
      exact absurd hc50 (by rw [hfc]; decide)
    ·
     have hrg : ¬ (n < 0 ∨ n > 1073741824 - (s.vs.length : Int)) := by (first | exact of_decide_eq_false hb47 | (have h9 := hb47; simpa using h9))
     have hfc := fresh_yes hok hrg
     have hw2 : IntKind.i64.wrap (n + (s.vs.length : Int)) = n + (s.vs.length : Int) := wrap_in (by omega) (by omega)
     refine AWp_skip ?_
     try simp only [thenQ, blockQ, noGotoQ]
     refine y0 _ ?_
     try clear y0 Y0
     refine AWp_seqK fun Y0 y0 => ?_
     refine AWp_region ?_
     simp only [↓bO, go_sem, seval, Sch.cells, hw1, hw2]
     refine y0 _ ?_
     try clear y0 Y0
     refine AWp_seqK fun Y0 y0 => ?_
     refine AWp_seqK fun Y1 y1 => ?_
     refine AWp_region ?_
     simp only [↓bO, go_sem, seval, Sch.cells, hw1, hw2]
     refine y1 _ ?_
     try clear y1 Y1
     refine AWp_block ?_
     refine AWp_weak (Weak.tokSlot 8 3 1 rfl) ?_
     simp only [List.set_cons_zero, List.set_cons_succ]
     refine AWp_loopM (σ := Nat) (mB 96 998) (fun z => z ≤ s.vs.length) (fun z => [(8, .osl 0 1 ((((List.range s.vs.length).map fun i : Nat => n + (i : Int)).take z).map intC)), (9, .v (.int .i64 (z : Int)))]) (fun z => [(0, .tok 3 1 z)]) (fun z => s.vs.length - z) 0 (Nat.zero_le _) ?_ (fun z hz => ?_)
     ·
      simp only [maskL, setsL, putsO, putO, mB, List.set_cons_zero, List.set_cons_succ, seval, bL]
      exact Weak.mk (by simp only [go_sem, Le.refl, Le.any, Le.slNil, Int.natCast_add, Int.cast_ofNat_Int, Int.natCast_one]) (fun _ _ h => h) rfl rfl
     simp only [maskL, setsL, putsO, putO, mB, List.set_cons_zero, List.set_cons_succ, seval]
     refine AWp_seqK fun Y1 y1 => ?_
     refine AWp_seqK fun Y2 y2 => ?_
     refine AWp_region ?_
     iterate 4 (refine aops_chunk 1 fun Q0 q0 => ?_; simp only [↓bO, go_sem, seval, Sch.cells, hw1, hw2]; refine q0 _ ?_; clear q0 Q0; simp only [go_sem])
     simp only [↓bO, go_sem, seval, Sch.cells, hw1, hw2]
     refine y2 _ ?_
     try clear y2 Y2
     refine AWp_cond rfl (fun hb66 => ?_) (fun hb66 => ?_)
     ·
      have hk : z < s.vs.length := by (have h9 := hb66; simp at h9; omega)
      have hw : IntKind.i64.wrap ((z : Int) + 1) = (z : Int) + 1 := wrap_in (by omega) (by omega)
      have hw3 : IntKind.i64.wrap (n + (z : Int)) = n + (z : Int) := wrap_in (by omega) (by omega)
      have hcl : (((List.range s.vs.length).map fun i : Nat => n + (i : Int)).take z).length = z := by (rw [List.length_take, List.length_map, List.length_range]; omega)
      have hb1 : (z + 1) * 8 ≤ 140737488355328 := by omega
      have hb2 : z + 1 ≤ maxLen := by (simp only [maxLen]; omega)
      have hst := names_step (n := n) hk
      refine AWp_skip ?_
      try simp only [thenQ, blockQ, noGotoQ]
      refine y1 _ ?_
      try clear y1 Y1
      refine AWp_seqK fun Y1 y1 => ?_
      refine AWp_block ?_
      refine AWp_region ?_
      iterate 4 (refine aops_chunk 1 fun Q0 q0 => ?_; simp only [↓bO, go_sem, seval, Sch.cells, hk, hw, hw3, hcl, hb1, hb2, hst, intC, List.map_append, Int.natCast_add, hw1, hw2]; refine q0 _ ?_; clear q0 Q0; simp only [go_sem])
      refine aops_chunk 1 fun Q0 q0 => ?_
      simp only [↓bO, go_sem, seval, ↓bs1_1, ↓bs1_2, ↓bs1_3, ↓bs1_4, ↓bs1_5, ↓bs1_6, ↓bs1_7, ↓bs1_8, ↓bs1_9, ↓bs1_10, ↓bs1_11, ↓bs1_12, Sch.cells, hk, hw, hw3, hcl, hb1, hb2, hst, intC, List.map_append, Int.natCast_add, hw1, hw2]
      refine q0 _ ?_
      clear q0 Q0
      simp only [go_sem]
      refine aops_chunk 1 fun Q0 q0 => ?_
      simp only [↓bO, go_sem, seval, Sch.cells, hk, hw, hw3, hcl, hb1, hb2, hst, intC, List.map_append, Int.natCast_add, hw1, hw2]
      refine q0 _ ?_
      clear q0 Q0
      simp only [go_sem]
      simp only [↓bO, go_sem, seval, Sch.cells, hk, hw, hw3, hcl, hb1, hb2, hst, intC, List.map_append, Int.natCast_add, hw1, hw2]
      refine y1 _ ?_
      try clear y1 Y1
      refine AWp_region ?_
      iterate 2 (refine aops_chunk 1 fun Q0 q0 => ?_; simp only [↓bO, go_sem, seval, Sch.cells, hk, hw, hw3, hcl, hb1, hb2, hst, intC, List.map_append, Int.natCast_add, hw1, hw2]; refine q0 _ ?_; clear q0 Q0; simp only [go_sem])
      simp only [↓bO, go_sem, seval, Sch.cells, hk, hw, hw3, hcl, hb1, hb2, hst, intC, List.map_append, Int.natCast_add, hw1, hw2]
      refine ⟨z + 1, (by omega), (by omega), ?_⟩
      simp only [maskL, setsL, putsO, putO, mB, List.set_cons_zero, List.set_cons_succ, seval, hk, hw, hw3, hcl, hb1, hb2, hst, intC, List.map_append, bL, Int.natCast_add, Int.natCast_one, hw1, hw2]
      exact Weak.mk (by simp only [go_sem, Le.refl, Le.any, Le.slNil, Int.natCast_add, Int.cast_ofNat_Int, Int.natCast_one]) (fun _ _ h => h) rfl rfl
     ·
      have hk : z = s.vs.length := by (have h9 := hb66; simp at h9; omega)
      rw [show (((List.range s.vs.length).map fun i : Nat => n + (i : Int)).take z) = ((List.range s.vs.length).map fun i : Nat => n + (i : Int)) from List.take_of_length_le (by simp; omega)]
      refine AWp_exit ?_
      simp only [thenQ, blockQ, noGotoQ, bA, Nat.reduceEqDiff, ↓reduceIte]
      refine y0 _ ?_
      try clear y0 Y0
      refine AWp_seqK fun Y0 y0 => ?_
      refine NAny_start 22 [2, 5] rfl mixed ?_
      dsimp only
      refine NAny_takeK 0 rfl (by kernel_rfl) (by kernel_rfl) (by kernel_rfl) (fun _ _ h => h) (by kernel_rfl) (fun d h => by cases h; rfl) (by kernel_rfl) (G' := [2, 5]) (by kernel_rfl) fun Q0 q0 => ?_
      simp only [↓bO, go_sem, seval, nHead, isE, isSE, isV, Sch.cells, hw1, hw2]
      refine q0 _ ?_
      clear q0 Q0
      refine NAny_all1 (i := 1) (by kernel_rfl) rfl (fun d h => by cases h; rfl) ?_
      refine aAt_op rfl rfl fun Q0 q0 => ?_
      simp only [↓bO, go_sem, seval, Sch.cells, hw1, hw2]
      refine q0 _ ⟨⟨rfl, rfl, trivial⟩, ?_⟩
      clear q0 Q0
      refine NAny_takeK 2 rfl (by kernel_rfl) (by kernel_rfl) (by kernel_rfl) (fun _ _ h => h) (by kernel_rfl) (fun d h => by cases h; rfl) (by kernel_rfl) (G' := [2, 5]) (by kernel_rfl) fun Q0 q0 => ?_
      simp only [↓bO, go_sem, seval, nHead, isE, isSE, isV, Sch.cells, hw1, hw2]
      refine q0 _ ?_
      clear q0 Q0
      refine NAny_case 77 rfl (fun hc77 => ?_) (fun hc77 => ?_)
      ·
       simp only [List.set_cons_zero, List.set_cons_succ]
       refine NAny_takeK 3 rfl (by kernel_rfl) (by kernel_rfl) (by kernel_rfl) (fun _ _ h => h) (by kernel_rfl) (fun d h => by cases h; rfl) (by kernel_rfl) (G' := [2, 5]) (by kernel_rfl) fun Q0 q0 => ?_
       simp only [↓bO, go_sem, seval, nHead, isE, isSE, isV, Sch.cells, hw1, hw2]
       refine q0 _ ?_
       clear q0 Q0
       refine NAny_takeK 4 rfl (by kernel_rfl) (by kernel_rfl) (by kernel_rfl) (fun _ _ h => h) (by kernel_rfl) (fun d h => by cases h; rfl) (by kernel_rfl) (G' := [2, 5]) (by kernel_rfl) fun Q0 q0 => ?_
       simp only [↓bO, go_sem, seval, nHead, isE, isSE, isV, Sch.cells, hw1, hw2]
       refine q0 _ ?_
       clear q0 Q0
       refine NAny_takeK 5 rfl (by kernel_rfl) (by kernel_rfl) (by kernel_rfl) (fun _ _ h => h) (by kernel_rfl) (fun d h => by cases h; rfl) (by kernel_rfl) (G' := [80, 2, 5]) (by kernel_rfl) fun Q0 q0 => ?_
       simp only [↓bO, go_sem, seval, nHead, isE, isSE, isV, Sch.cells, hw1, hw2]
       refine q0 _ ?_
       clear q0 Q0
       refine NAny_takeK 6 rfl (by kernel_rfl) (by kernel_rfl) (by kernel_rfl) (fun _ _ h => h) (by kernel_rfl) (fun d h => by cases h; rfl) (by kernel_rfl) (G' := [81, 80, 2, 5]) (by kernel_rfl) fun Q0 q0 => ?_
       simp only [↓bO, go_sem, seval, nHead, isE, isSE, isV, Sch.cells, hw1, hw2]
       refine q0 _ ?_
       clear q0 Q0
       refine NAny_all1 (i := 7) (by kernel_rfl) rfl (fun d h => by cases h; rfl) ?_
       refine aAt_if rfl fun Q0 q0 => ?_
       simp only [↓bO, go_sem, seval, Sch.cells, hw1, hw2]
       refine q0 _ ⟨⟨rfl, rfl, rfl, rfl, trivial⟩, ?_⟩
       clear q0 Q0
       refine NAny_all1 (i := 8) (by kernel_rfl) rfl (fun d h => by cases h; rfl) ?_
       refine aAt_if rfl fun Q0 q0 => ?_
       simp only [↓bO, go_sem, seval, Sch.cells, hw1, hw2]
       refine q0 _ ⟨⟨rfl, rfl, rfl, rfl, trivial⟩, ?_⟩
       clear q0 Q0
       refine NAny_all1 (i := 9) (by kernel_rfl) rfl (fun d h => by cases h; rfl) ?_
       refine aAt_if rfl fun Q0 q0 => ?_
       simp only [↓bO, go_sem, seval, Sch.cells, hw1, hw2]
       refine q0 _ ⟨⟨rfl, rfl, rfl, rfl, trivial⟩, ?_⟩
       clear q0 Q0
       refine NAny_all1 (i := 10) (by kernel_rfl) rfl (fun d h => by cases h; rfl) ?_
       refine aAt_op rfl rfl fun Q0 q0 => ?_
       simp only [↓bO, go_sem, seval, Sch.cells, hw1, hw2]
       refine q0 _ ⟨⟨rfl, rfl, rfl, rfl, trivial⟩, ?_⟩
       clear q0 Q0
       refine NAny_takeK 11 rfl (by kernel_rfl) (by kernel_rfl) (by kernel_rfl) (fun _ _ h => h) (by kernel_rfl) (fun d h => by cases h; rfl) (by kernel_rfl) (G' := [81, 80, 2, 5]) (by kernel_rfl) fun Q0 q0 => ?_
       simp only [↓bO, go_sem, seval, nHead, isE, isSE, isV, Sch.cells, hw1, hw2]
       refine q0 _ ?_
       clear q0 Q0
       refine NAny_case 86 rfl (fun hc86 => ?_) (fun hc86 => ?_)
       ·
        simp only [List.set_cons_zero, List.set_cons_succ]
        refine NAny_takeK 12 rfl (by kernel_rfl) (by kernel_rfl) (by kernel_rfl) (fun _ _ h => h) (by kernel_rfl) (fun d h => by cases h; rfl) (by kernel_rfl) (G' := [87, 81, 80, 2, 5]) (by kernel_rfl) fun Q0 q0 => ?_
        simp only [↓bO, go_sem, seval, nHead, isE, isSE, isV, Sch.cells, hw1, hw2]
        refine q0 _ ?_
        clear q0 Q0
        refine NAny_takeK 13 rfl (by kernel_rfl) (by kernel_rfl) (by kernel_rfl) (fun _ _ h => h) (by kernel_rfl) (fun d h => by cases h; rfl) (by kernel_rfl) (G' := [88, 87, 81, 80, 2, 5]) (by kernel_rfl) fun Q0 q0 => ?_
        simp only [↓bO, go_sem, seval, nHead, isE, isSE, isV, Sch.cells, hw1, hw2]
        refine q0 _ ?_
        clear q0 Q0
        refine NAny_takeK 14 rfl (by kernel_rfl) (by kernel_rfl) (by kernel_rfl) (fun _ _ h => h) (by kernel_rfl) (fun d h => by cases h; rfl) (by kernel_rfl) (G' := [88, 87, 81, 80, 2, 5]) (by kernel_rfl) fun Q0 q0 => ?_
        simp only [↓bO, go_sem, seval, nHead, isE, isSE, isV, Sch.cells, hw1, hw2]
        refine q0 _ ?_
        clear q0 Q0
        refine NAny_all1 (i := 15) (by kernel_rfl) rfl (fun d h => by cases h; rfl) ?_
        refine aAt_if rfl fun Q0 q0 => ?_
        simp only [↓bO, go_sem, seval, Sch.cells, hw1, hw2]
        refine ACalls.args (args' := [.agg s.cells, .sl 1 (((List.range s.vs.length).map fun i : Nat => n + (i : Int)).map intC)]) ⟨.refl _, Le.oslL, trivial⟩ ?_
        refine APure.call (Call16_pure s ((List.range s.vs.length).map fun i : Nat => n + (i : Int)) (by simp) (by omega) (by omega)) ?_
        try simp only [bS, bA]
        refine q0 _ ⟨⟨rfl, rfl, rfl, rfl, rfl, rfl, trivial⟩, ?_⟩
        clear q0 Q0
        refine NAny_all1 (i := 16) (by kernel_rfl) rfl (fun d h => by cases h; rfl) ?_
        refine aAt_if rfl fun Q0 q0 => ?_
        simp only [↓bO, go_sem, seval, Sch.cells, hw1, hw2]
        refine APure.call (Same_pure (freshC s n).1 (s.t.sub (callB s.vs ((List.range s.vs.length).map fun i : Nat => n + (i : Int))))) ?_
        try simp only [bS, bA]
        refine q0 _ ⟨⟨rfl, rfl, rfl, rfl, rfl, rfl, trivial⟩, ?_⟩
        clear q0 Q0
        refine NAny_all1 (i := 17) (by kernel_rfl) rfl (fun d h => by cases h; rfl) ?_
        refine aAt_op rfl rfl fun Q0 q0 => ?_
        simp only [↓bO, go_sem, seval, Sch.cells, hw1, hw2]
        refine q0 _ ⟨⟨rfl, rfl, rfl, rfl, rfl, rfl, trivial⟩, ?_⟩
        clear q0 Q0
        refine NAny_takeK 18 rfl (by kernel_rfl) (by kernel_rfl) (by kernel_rfl) (fun _ _ h => h) (by kernel_rfl) (fun d h => by cases h; rfl) (by kernel_rfl) (G' := [88, 87, 81, 80, 2, 5]) (by kernel_rfl) fun Q0 q0 => ?_
        simp only [↓bO, go_sem, seval, nHead, isE, isSE, isV, Sch.cells, hw1, hw2]
        refine q0 _ ?_
        clear q0 Q0
        refine NAny_case 93 rfl (fun hc93 => ?_) (fun hc93 => ?_)
        ·
         simp only [List.set_cons_zero, List.set_cons_succ]
         refine NAny_all1 (i := 19) (by kernel_rfl) rfl (fun d h => by cases h; rfl) ?_
         refine aAt_if rfl fun Q0 q0 => ?_
         simp only [↓bO, go_sem, seval, Sch.cells, hw1, hw2]
         refine APure.call (hA) ?_
         try simp only [bS, bA]
         refine q0 _ ⟨⟨rfl, rfl, rfl, rfl, rfl, rfl, trivial⟩, ?_⟩
         clear q0 Q0
         refine NAny_all1 (i := 20) (by kernel_rfl) rfl (fun d h => by cases h; rfl) ?_
         refine aAt_op rfl rfl fun Q0 q0 => ?_
         simp only [↓bO, go_sem, seval, Sch.cells, hw1, hw2]
         refine q0 _ ⟨⟨rfl, rfl, rfl, rfl, rfl, rfl, trivial⟩, ?_⟩
         clear q0 Q0
         refine NAny_all1 (i := 21) (by kernel_rfl) rfl (fun d h => by cases h; rfl) ?_
         refine aAt_op rfl rfl fun Q0 q0 => ?_
         simp only [↓bO, go_sem, seval, Sch.cells, hw1, hw2]
         refine q0 _ ⟨⟨rfl, rfl, rfl, rfl, rfl, rfl, trivial⟩, ?_⟩
         clear q0 Q0
         refine NAny_done (by kernel_rfl) ?_
         simp only [thenQ, blockQ, noGotoQ]
         refine y0 _ ?_
         try clear y0 Y0
         refine AWp_ret ?_
         try simp only [thenQ, blockQ, noGotoQ, retQ, aRes, tupOf, bS, bA]
         exact Le.refl _
        ·
         simp only [List.set_cons_zero, List.set_cons_succ]
         exact absurd hc93 (by rw [hfc, Ty.same_reflS]; decide)
       ·
        simp only [List.set_cons_zero, List.set_cons_succ]
        exact absurd hc86 (by rw [hfc]; simp)
      ·
       simp only [List.set_cons_zero, List.set_cons_succ]
       exact absurd hc77 (by rw [hfc]; simp)
end Go.Proofs.YtheacaigeidflaaDoor
