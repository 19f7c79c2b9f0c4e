/- Texts of the abstract walk, of the contracts and of the plain laws, packed (part 33 of 40): Same Right Sg1 Sg2 Sg3 Sg4 SigP. Conditions: none. -/
import Derived.Test.YtkokfdmggdhfmaaDoorPk32
namespace Go.Proofs.YtkokfdmggdhfmaaDoor
open Go Go.RowKit
set_option maxRecDepth 100000
set_option maxHeartbeats 1000000
set_option linter.unusedSimpArgs false
set_option linter.unnecessarySimpa false
set_option linter.unusedVariables false
attribute [local irreducible] aops dRun
theorem Ty.ind {C : Ty → Prop} (h : ∀ T, (∀ p ∈ T.ps, C p) → C T) : ∀ T, C T := by
  have key : ∀ n, ∀ T : Ty, SizeOf.sizeOf T ≤ n → C T := by
    intro n
    induction n with
    | zero => intro T hT; cases T; simp at hT
    | succ n ih =>
      intro T hT
      refine h T (fun p hp => ih p ?_)
      cases T with
      | mk k m ps =>
        have := List.sizeOf_lt_of_mem (show p ∈ ps from hp)
        simp at hT
        omega
  exact fun T => key _ T (Nat.le_refl _)
mutual
def Ty.same : Ty → Ty → Bool
  | .mk k n ps, .mk k' n' ps' => k == k' && n == n' && Ty.sameL ps ps'
def Ty.sameL : List Ty → List Ty → Bool
  | [], [] => true
  | p :: ps, q :: qs => Ty.same p q && Ty.sameL ps qs
  | _, _ => false
end
theorem Ty.same_eq (a b : Ty) : a.same b = (a.k == b.k && a.n == b.n && Ty.sameL a.ps b.ps) := by cases a; cases b; simp [Ty.same, Ty.k, Ty.n, Ty.ps]
theorem Ty.sameL_len : ∀ {ps qs : List Ty}, ps.length ≠ qs.length → Ty.sameL ps qs = false
  | [], [], h => absurd rfl h
  | [], _ :: _, _ => by simp [Ty.sameL]
  | _ :: _, [], _ => by simp [Ty.sameL]
  | p :: ps, q :: qs, h => by simp [Ty.sameL, Ty.sameL_len (ps := ps) (qs := qs) (by simpa using h)]
theorem Ty.sameL_false : ∀ {ps qs : List Ty} {k : Nat} {p q : Ty}, ps[k]? = some p → qs[k]? = some q → p.same q = false → Ty.sameL ps qs = false
  | p :: ps, q :: qs, 0, _, _, h1, h2, h => by simp at h1 h2; subst h1; subst h2; simp [Ty.sameL, h]
  | p :: ps, q :: qs, k + 1, _, _, h1, h2, h => by simp [Ty.sameL, Ty.sameL_false (k := k) (by simpa using h1) (by simpa using h2) h]
  | [], _, _, _, _, h1, _, _ => by simp at h1
  | _ :: _, [], _, _, _, _, h2, _ => by simp at h2
theorem Ty.sameL_true : ∀ {ps qs : List Ty}, ps.length = qs.length → (∀ (k : Nat) (p q : Ty), ps[k]? = some p → qs[k]? = some q → p.same q = true) → Ty.sameL ps qs = true
  | [], [], _, _ => by simp [Ty.sameL]
  | p :: ps, q :: qs, hl, h => by
    have h1 := h 0 p q rfl rfl
    have h2 := Ty.sameL_true (ps := ps) (qs := qs) (by simpa using hl) (fun k p q hp hq => h (k + 1) p q (by simpa using hp) (by simpa using hq))
    simp [Ty.sameL, h1, h2]
theorem Same_pure : ∀ (T1 T2 : Ty), APure Tryd.prog 8 [.agg T1.cells, .agg T2.cells] (.v (.bool (T1.same T2))) := by
  refine Ty.ind fun T1 ih => ?_
  intro T2
  refine APure.mk (.cons T1.dataAgg (.cons T2.dataAgg .nil)) (.v _) ?_
  refine ACalls_intro Tryd.func8 (by kernel_rfl) rfl (by rw [Tryd.ntmps8]; simp) (fun hm => ?_)
  simp only [Tryd.ntmps8, Tryd.results8, List.length_cons, List.length_nil, Nat.reduceAdd, Nat.reduceSub, List.replicate_succ, List.replicate_zero, List.cons_append, List.nil_append]
  have hm1 := hm.wide (t := T1) (by simp)
  refine AWp_seqK fun Y0 y0 => ?_
  refine AWp_region ?_
  simp only [↓bO, go_sem, seval]
  refine y0 _ ?_
  try clear y0 Y0
  refine AWp_seqK fun Y0 y0 => ?_
  refine AWp_seqK fun Y1 y1 => ?_
  refine AWp_region ?_
  iterate 2 (refine aops_chunk 3 fun Q0 q0 => ?_; simp only [↓bO, go_sem, seval]; refine q0 _ ?_; clear q0 Q0; simp only [go_sem])
  refine aops_case 11 rfl (fun hc11 => ?_) (fun hc11 => ?_)
  ·
   simp only [List.set_cons_zero, List.set_cons_succ]
   iterate 4 (refine aops_chunk 3 fun Q0 q0 => ?_; simp only [↓bO, go_sem, seval]; refine q0 _ ?_; clear q0 Q0; simp only [go_sem])
   simp only [↓bO, go_sem, seval]
   refine y1 _ ?_
   try clear y1 Y1
   refine AWp_cond (b := true) (by first | exact rfl | exact congrArg (fun b => AV.v (.bool b)) hb26) (fun _ => ?_) (fun h => (by cases h))
   refine AWp_seqK fun Y1 y1 => ?_
   refine AWp_region ?_
   simp only [↓bO, go_sem, seval]
   refine y1 _ ?_
   try clear y1 Y1
   refine AWp_ret ?_
   try simp only [thenQ, blockQ, noGotoQ, retQ, aRes, tupOf, bS, bA]
   first | (rw [Ty.same_eq]; simp_all; done) | (rw [Ty.same_eq]; simp at hb45; rw [Ty.sameL_false hp hq hb45]; simp; done) | (rw [Ty.same_eq]; simp at hb26; rw [Ty.sameL_len (by omega)]; simp; done) | (rw [Ty.same_eq, Ty.sameL_true e3 (fun i p q h1 h2 => hs.2 i p q (by have := (List.getElem?_eq_some_iff.1 h1).1; omega) h1 h2)]; simp_all; done) | skip
  ·
   simp only [List.set_cons_zero, List.set_cons_succ]
   iterate 2 (refine aops_chunk 3 fun Q0 q0 => ?_; simp only [↓bO, go_sem, seval]; refine q0 _ ?_; clear q0 Q0; simp only [go_sem])
   refine aops_chunk 1 fun Q0 q0 => ?_
   simp only [↓bO, go_sem, seval]
   refine q0 _ ?_
   clear q0 Q0
   simp only [go_sem]
   refine aops_case 18 rfl (fun hc18 => ?_) (fun hc18 => ?_)
   ·
    simp only [List.set_cons_zero, List.set_cons_succ]
    iterate 2 (refine aops_chunk 3 fun Q0 q0 => ?_; simp only [↓bO, go_sem, seval]; refine q0 _ ?_; clear q0 Q0; simp only [go_sem])
    simp only [↓bO, go_sem, seval]
    refine y1 _ ?_
    try clear y1 Y1
    refine AWp_cond (b := true) (by first | exact rfl | exact congrArg (fun b => AV.v (.bool b)) hb26) (fun _ => ?_) (fun h => (by cases h))
    refine AWp_seqK fun Y1 y1 => ?_
    refine AWp_region ?_
    simp only [↓bO, go_sem, seval]
    refine y1 _ ?_
    try clear y1 Y1
    refine AWp_ret ?_
    try simp only [thenQ, blockQ, noGotoQ, retQ, aRes, tupOf, bS, bA]
    first | (rw [Ty.same_eq]; simp_all; done) | (rw [Ty.same_eq]; simp at hb45; rw [Ty.sameL_false hp hq hb45]; simp; done) | (rw [Ty.same_eq]; simp at hb26; rw [Ty.sameL_len (by omega)]; simp; done) | (rw [Ty.same_eq, Ty.sameL_true e3 (fun i p q h1 h2 => hs.2 i p q (by have := (List.getElem?_eq_some_iff.1 h1).1; omega) h1 h2)]; simp_all; done) | skip
   ·
    simp only [List.set_cons_zero, List.set_cons_succ]
    iterate 2 (refine aops_chunk 3 fun Q0 q0 => ?_; simp only [↓bO, go_sem, seval]; refine q0 _ ?_; clear q0 Q0; simp only [go_sem])
    simp only [↓bO, go_sem, seval]
    refine y1 _ ?_
    try clear y1 Y1
    refine AWp_cond rfl (fun hb26 => ?_) (fun hb26 => ?_)
    ·
     refine AWp_seqK fun Y1 y1 => ?_
     refine AWp_region ?_
     simp only [↓bO, go_sem, seval]
     refine y1 _ ?_
     try clear y1 Y1
     refine AWp_ret ?_
     try simp only [thenQ, blockQ, noGotoQ, retQ, aRes, tupOf, bS, bA]
     first | (rw [Ty.same_eq]; simp_all; done) | (rw [Ty.same_eq]; simp at hb45; rw [Ty.sameL_false hp hq hb45]; simp; done) | (rw [Ty.same_eq]; simp at hb26; rw [Ty.sameL_len (by omega)]; simp; done) | (rw [Ty.same_eq, Ty.sameL_true e3 (fun i p q h1 h2 => hs.2 i p q (by have := (List.getElem?_eq_some_iff.1 h1).1; omega) h1 h2)]; simp_all; done) | skip
    ·
     have e3 : T1.ps.length = T2.ps.length   := by simp at hb26; omega
     refine AWp_skip ?_
     try simp only [thenQ, blockQ, noGotoQ]
     refine y0 _ ?_
     try clear y0 Y0
     refine AWp_seqK fun Y0 y0 => ?_
     refine AWp_seqK fun Y1 y1 => ?_
     refine AWp_region ?_
     simp only [↓bO, go_sem, seval]
     refine y1 _ ?_
     try clear y1 Y1
     refine AWp_block ?_
     refine AWp_loopM (σ := Nat) (mB 46 44) (fun s => s ≤ T1.ps.length ∧ ∀ (i : Nat) (p q : Ty), i < s → T1.ps[i]? = some p → T2.ps[i]? = some q → p.same q = true) (fun s => [(5, .v (.int .i64 (s : Int)))]) (fun s => []) (fun s => T1.ps.length - s) 0 (⟨by omega, fun i p q hi => by omega⟩) ?_ (fun s hs => ?_)
     ·
      simp only [maskL, setsL, putsO, putO, mB, List.set_cons_zero, List.set_cons_succ, seval]
      exact Weak.mk (by simp only [go_sem, Le.refl, Le.any, Le.slNil, Int.natCast_add, Int.cast_ofNat_Int, Int.natCast_one]) (fun _ _ h => h) rfl rfl
     simp only [maskL, setsL, putsO, putO, mB, List.set_cons_zero, List.set_cons_succ, seval]
     refine AWp_seqK fun Y1 y1 => ?_
     refine AWp_seqK fun Y2 y2 => ?_
     refine AWp_region ?_
     refine aops_chunk 3 fun Q0 q0 => ?_
     simp only [↓bO, go_sem, seval]
     refine q0 _ ?_
     clear q0 Q0
     simp only [go_sem]
     simp only [↓bO, go_sem, seval]
     refine y2 _ ?_
     try clear y2 Y2
     refine AWp_cond rfl (fun hb31 => ?_) (fun hb31 => ?_)
     ·
      have hk : s < T1.ps.length := by simpa using hb31
      have hk2 : s < T2.ps.length := by omega
      obtain ⟨p, hp⟩ : ∃ p, T1.ps[s]? = some p := ⟨_, List.getElem?_eq_getElem hk⟩
      obtain ⟨q, hq⟩ : ∃ q, T2.ps[s]? = some q := ⟨_, List.getElem?_eq_getElem hk2⟩
      have hw : IntKind.i64.wrap ((s : Int) + 1) = (s : Int) + 1 := wrap_in (by omega) (by have := hm1.len; simp only [maxLen] at this; omega)
      refine AWp_skip ?_
      try simp only [thenQ, blockQ, noGotoQ]
      refine y1 _ ?_
      try clear y1 Y1
      refine AWp_seqK fun Y1 y1 => ?_
      refine AWp_block ?_
      refine AWp_seqK fun Y2 y2 => ?_
      refine AWp_drawK 12 mixed (by kernel_rfl) fun J0 j0 => ?_
      iterate 3 (simp only [go_sem]; refine dRun_chunk 3 fun Q0 q0 => ?_; simp only [↓dRun, ↓dOp, ↓bO, go_sem, seval, hk, hk2, gM hp, gM hq, Int.natCast_add, hw]; refine q0 _ ?_; clear q0 Q0)
      simp only [go_sem]
      refine dRun_chunk 1 fun Q0 q0 => ?_
      simp only [↓dRun, ↓dOp, ↓bO, go_sem, seval, hk, hk2, gM hp, gM hq, Int.natCast_add, hw]
      refine q0 _ ?_
      clear q0 Q0
      simp only [go_sem]
      refine dRun_chunk 1 fun Q0 q0 => ?_
      simp only [↓dRun, ↓dOp, ↓bO, go_sem, seval, hk, hk2, gM hp, gM hq, Int.natCast_add, hw]
      refine ⟨_, ih p (List.mem_of_getElem? hp) q, ?_⟩
      try simp only [bS, bA, thenQ, blockQ, noGotoQ]
      refine q0 _ ?_
      clear q0 Q0
      simp only [go_sem]
      simp only [↓dRun, ↓dOp, ↓bO, go_sem, seval, hk, hk2, gM hp, gM hq, Int.natCast_add, hw]
      refine j0 _ ?_
      clear j0 J0
      simp only [bL, aops, thenQ, blockQ, noGotoQ]
      refine y2 _ ?_
      try clear y2 Y2
      refine AWp_cond rfl (fun hb45 => ?_) (fun hb45 => ?_)
      ·
       refine AWp_seqK fun Y2 y2 => ?_
       refine AWp_region ?_
       simp only [↓bO, go_sem, seval, hk, hk2, gM hp, gM hq, Int.natCast_add, hw]
       refine y2 _ ?_
       try clear y2 Y2
       refine AWp_ret ?_
       try simp only [thenQ, blockQ, noGotoQ, retQ, aRes, tupOf, bS, bA]
       first | (rw [Ty.same_eq]; simp_all; done) | (rw [Ty.same_eq]; simp at hb45; rw [Ty.sameL_false hp hq hb45]; simp; done) | (rw [Ty.same_eq]; simp at hb26; rw [Ty.sameL_len (by omega)]; simp; done) | (rw [Ty.same_eq, Ty.sameL_true e3 (fun i p q h1 h2 => hs.2 i p q (by have := (List.getElem?_eq_some_iff.1 h1).1; omega) h1 h2)]; simp_all; done) | skip
      ·
       refine AWp_skip ?_
       try simp only [thenQ, blockQ, noGotoQ]
       refine y1 _ ?_
       try clear y1 Y1
       refine AWp_region ?_
       simp only [↓bO, go_sem, seval, hk, hk2, gM hp, gM hq, Int.natCast_add, hw]
       refine ⟨(s + 1), ⟨by omega, fun i p' q' hi h1 h2 => (by rcases Nat.lt_or_ge i s with h3 | h3 <;> first | exact hs.2 i p' q' h3 h1 h2 | (obtain rfl : i = s := (by omega); rw [hp] at h1; rw [hq] at h2; cases h1; cases h2; simpa using hb45))⟩, by omega, ?_⟩
       simp only [maskL, setsL, putsO, putO, mB, List.set_cons_zero, List.set_cons_succ, seval, hk, hk2, gM hp, gM hq, Int.natCast_add, Int.natCast_one, hw]
       exact Weak.mk (by simp only [go_sem, Le.refl, Le.any, Le.slNil, Int.natCast_add, Int.cast_ofNat_Int, Int.natCast_one]) (fun _ _ h => h) rfl rfl
     ·
      have hk : s = T1.ps.length := by have := hs.1; simp at hb31; omega
      refine AWp_exit ?_
      simp only [thenQ, blockQ, noGotoQ, bA, Nat.reduceEqDiff, ↓reduceIte]
      refine y0 _ ?_
      try clear y0 Y0
      refine AWp_seqK fun Y0 y0 => ?_
      refine AWp_region ?_
      simp only [↓bO, go_sem, seval]
      refine y0 _ ?_
      try clear y0 Y0
      refine AWp_ret ?_
      try simp only [thenQ, blockQ, noGotoQ, retQ, aRes, tupOf, bS, bA]
      first | (rw [Ty.same_eq]; simp_all; done) | (rw [Ty.same_eq]; simp at hb45; rw [Ty.sameL_false hp hq hb45]; simp; done) | (rw [Ty.same_eq]; simp at hb26; rw [Ty.sameL_len (by omega)]; simp; done) | (rw [Ty.same_eq, Ty.sameL_true e3 (fun i p q h1 h2 => hs.2 i p q (by have := (List.getElem?_eq_some_iff.1 h1).1; omega) h1 h2)]; simp_all; done) | skip
end Go.Proofs.YtkokfdmggdhfmaaDoor
namespace Go.Proofs.YtkokfdmggdhfmaaDoor
open Go Go.RowKit
set_option maxRecDepth 100000
set_option maxHeartbeats 4000000
set_option linter.unusedSimpArgs false
set_option linter.unnecessarySimpa false
set_option linter.unusedVariables false
attribute [local irreducible] aops dRun
def okN (k n : Int) (len : Nat) : Bool :=
  decide ((k = 1 ∧ 0 ≤ n ∧ n < 1073741824 ∧ len = 0) ∨ (n = 0 ∧ (((k = 2 ∨ k = 3) ∧ len = 0) ∨ (k = 4 ∧ len = 2) ∨ (k = 5 ∧ 2 ≤ len ∧ len ≤ 8))))
mutual
def Ty.right : Ty → Bool
  | .mk k n ps => okN k n ps.length && Ty.rightL ps
def Ty.rightL : List Ty → Bool
  | [] => true
  | p :: ps => Ty.right p && Ty.rightL ps
end
theorem Ty.rightL_eq : ∀ ps, Ty.rightL ps = ps.all Ty.right
  | [] => by simp [Ty.rightL]
  | p :: ps => by simp [Ty.rightL, Ty.rightL_eq ps]
theorem Ty.right_eq (t : Ty) : t.right = (okN t.k t.n t.ps.length && t.ps.all Ty.right) := by cases t; simp [Ty.right, Ty.rightL_eq, Ty.k, Ty.n, Ty.ps]
theorem all_true_of {α : Type} {f : α → Bool} {ps : List α} (h : ∀ (i : Nat) (p : α), i < ps.length → ps[i]? = some p → f p = true) : ps.all f = true := by
  rw [List.all_eq_true]
  intro p hp
  obtain ⟨i, hi, e⟩ := List.mem_iff_getElem.1 hp
  exact h i p hi (by rw [List.getElem?_eq_getElem hi, e])
theorem all_false_of {α : Type} {f : α → Bool} {ps : List α} {i : Nat} {p : α} (hp : ps[i]? = some p) (h : f p = false) : ps.all f = false := by
  rw [← Bool.not_eq_true, List.all_eq_true]
  intro hh
  have := hh p (List.mem_of_getElem? hp)
  rw [h] at this; cases this
theorem RefRight_pure : ∀ (T : Ty), APure Tryd.prog 18 [.agg T.cells] (.v (.bool T.right)) := by
  refine Ty.ind fun T ih => ?_
  refine APure.mkL (.cons T.dataAgg .nil) (.v _) ?_
  refine ACalls_intro Tryd.func18 (by kernel_rfl) rfl (by rw [Tryd.ntmps18]; simp) (fun hm => ?_)
  simp only [Tryd.ntmps18, Tryd.results18, List.length_cons, List.length_nil, Nat.reduceAdd, Nat.reduceSub, List.replicate_succ, List.replicate_zero, List.cons_append, List.nil_append]
  have hm1 := hm.wide (t := T) (by simp)
  refine AWp_seqK fun Y0 y0 => ?_
  refine AWp_region ?_
  simp only [↓bO, go_sem, seval]
  refine y0 _ ?_
  try clear y0 Y0
  refine AWp_seqK fun Y0 y0 => ?_
  refine AWp_region ?_
  refine aops_chunk 2 fun Q0 q0 => ?_
  simp only [↓bO, go_sem, seval]
  refine q0 _ ?_
  clear q0 Q0
  simp only [go_sem]
  simp only [↓bO, go_sem, seval]
  refine y0 _ ?_
  try clear y0 Y0
  refine AWp_seqK fun Y0 y0 => ?_
  refine AWp_block ?_
  refine AWp_joinM (mB 89 266) ([(8, .v (.bool (decide (T.k = 1 ∧ (T.n < 0 ∨ 1073741824 ≤ T.n ∨ 0 < T.ps.length)))))]) ([]) ?_ ?_
  ·
   refine AWp_region ?_
   iterate 2 (refine aops_chunk 2 fun Q0 q0 => ?_; simp only [↓bO, go_sem, seval]; refine q0 _ ?_; clear q0 Q0; simp only [go_sem])
   refine aops_case 12 rfl (fun hc12 => ?_) (fun hc12 => ?_)
   ·
    simp only [List.set_cons_zero, List.set_cons_succ]
    iterate 2 (refine aops_chunk 2 fun Q0 q0 => ?_; simp only [↓bO, go_sem, seval]; refine q0 _ ?_; clear q0 Q0; simp only [go_sem])
    refine aops_case 16 rfl (fun hc16 => ?_) (fun hc16 => ?_)
    ·
     simp only [List.set_cons_zero, List.set_cons_succ]
     iterate 4 (refine aops_chunk 2 fun Q0 q0 => ?_; simp only [↓bO, go_sem, seval]; refine q0 _ ?_; clear q0 Q0; simp only [go_sem])
     simp only [↓bO, go_sem, seval]
     try simp only [maskL, setsL, putsO, putO, mB, List.set_cons_zero, List.set_cons_succ, seval]
     refine Weak.mk ?_ (fun _ _ h => h) rfl rfl
     simp only [go_sem, Le.refl, Le.any]
     all_goals (refine Le.of_eq (congrArg (fun b => AV.v (.bool b)) ?_); rw [Bool.eq_iff_iff]; simp at *; omega)
    ·
     simp only [List.set_cons_zero, List.set_cons_succ]
     iterate 2 (refine aops_chunk 2 fun Q0 q0 => ?_; simp only [↓bO, go_sem, seval]; refine q0 _ ?_; clear q0 Q0; simp only [go_sem])
     refine aops_chunk 1 fun Q0 q0 => ?_
     simp only [↓bO, go_sem, seval]
     refine q0 _ ?_
     clear q0 Q0
     simp only [go_sem]
     refine aops_case 21 rfl (fun hc21 => ?_) (fun hc21 => ?_)
     ·
      simp only [List.set_cons_zero, List.set_cons_succ]
      iterate 2 (refine aops_chunk 2 fun Q0 q0 => ?_; simp only [↓bO, go_sem, seval]; refine q0 _ ?_; clear q0 Q0; simp only [go_sem])
      simp only [↓bO, go_sem, seval]
      try simp only [maskL, setsL, putsO, putO, mB, List.set_cons_zero, List.set_cons_succ, seval]
      refine Weak.mk ?_ (fun _ _ h => h) rfl rfl
      simp only [go_sem, Le.refl, Le.any]
      all_goals (refine Le.of_eq (congrArg (fun b => AV.v (.bool b)) ?_); rw [Bool.eq_iff_iff]; simp at *; omega)
     ·
      simp only [List.set_cons_zero, List.set_cons_succ]
      iterate 2 (refine aops_chunk 2 fun Q0 q0 => ?_; simp only [↓bO, go_sem, seval]; refine q0 _ ?_; clear q0 Q0; simp only [go_sem])
      simp only [↓bO, go_sem, seval]
      try simp only [maskL, setsL, putsO, putO, mB, List.set_cons_zero, List.set_cons_succ, seval]
      refine Weak.mk ?_ (fun _ _ h => h) rfl rfl
      simp only [go_sem, Le.refl, Le.any]
      all_goals (refine Le.of_eq (congrArg (fun b => AV.v (.bool b)) ?_); rw [Bool.eq_iff_iff]; simp at *; omega)
   ·
    simp only [List.set_cons_zero, List.set_cons_succ]
    refine aops_chunk 2 fun Q0 q0 => ?_
    simp only [↓bO, go_sem, seval]
    refine q0 _ ?_
    clear q0 Q0
    simp only [go_sem]
    refine aops_chunk 3 fun Q0 q0 => ?_
    simp only [↓bO, go_sem, seval]
    refine q0 _ ?_
    clear q0 Q0
    simp only [go_sem]
    refine aops_chunk 2 fun Q0 q0 => ?_
    simp only [↓bO, go_sem, seval]
    refine q0 _ ?_
    clear q0 Q0
    simp only [go_sem]
    refine aops_chunk 3 fun Q0 q0 => ?_
    simp only [↓bO, go_sem, seval]
    refine q0 _ ?_
    clear q0 Q0
    simp only [go_sem]
    refine aops_chunk 2 fun Q0 q0 => ?_
    simp only [↓bO, go_sem, seval]
    refine q0 _ ?_
    clear q0 Q0
    simp only [go_sem]
    simp only [↓bO, go_sem, seval]
    try simp only [maskL, setsL, putsO, putO, mB, List.set_cons_zero, List.set_cons_succ, seval]
    refine Weak.mk ?_ (fun _ _ h => h) rfl rfl
    simp only [go_sem, Le.refl, Le.any]
    all_goals (refine Le.of_eq (congrArg (fun b => AV.v (.bool b)) ?_); rw [Bool.eq_iff_iff]; simp at *; omega)
  simp only [maskL, setsL, putsO, putO, mB, List.set_cons_zero, List.set_cons_succ, seval]
  refine AWp_cond rfl (fun hb8 => ?_) (fun hb8 => ?_)
  ·
   refine AWp_seqK fun Y1 y1 => ?_
   refine AWp_region ?_
   simp only [↓bO, go_sem, seval]
   refine y1 _ ?_
   try clear y1 Y1
   refine AWp_ret ?_
   try simp only [thenQ, blockQ, noGotoQ, retQ, aRes, tupOf, bS, bA]
   refine Le.of_eq ?_
   rw [Ty.right_eq]
   all_goals try simp only [decide_eq_true_eq, decide_eq_false_iff_not] at hb8
   all_goals try simp only [decide_eq_true_eq, decide_eq_false_iff_not] at hb26
   all_goals try simp only [decide_eq_true_eq, decide_eq_false_iff_not] at hb35
   all_goals try simp only [decide_eq_true_eq, decide_eq_false_iff_not] at hb48
   all_goals try simp only [decide_eq_true_eq, decide_eq_false_iff_not] at hb56
   all_goals try simp only [decide_eq_true_eq, decide_eq_false_iff_not] at hb68
   first | (have e1 : okN T.k T.n T.ps.length = false := (by simp only [okN, decide_eq_false_iff_not]; omega); rw [e1]; rfl) | (rw [all_false_of hp (by simpa using hb88)]; simp; done) | (have e1 : okN T.k T.n T.ps.length = true := (by simp only [okN, decide_eq_true_eq]; omega); rw [e1, all_true_of (f := Ty.right) (fun i p hi h1 => hs.2 i p (by omega) h1)]; rfl)
  ·
   refine AWp_joinM (mB 89 67108874) ([(26, .v (.bool (decide (T.k ≠ 1 ∧ T.n ≠ 0))))]) ([]) ?_ ?_
   ·
    refine AWp_region ?_
    iterate 2 (refine aops_chunk 2 fun Q0 q0 => ?_; simp only [↓bO, go_sem, seval]; refine q0 _ ?_; clear q0 Q0; simp only [go_sem])
    refine aops_case 30 rfl (fun hc30 => ?_) (fun hc30 => ?_)
    ·
     simp only [List.set_cons_zero, List.set_cons_succ]
     iterate 2 (refine aops_chunk 2 fun Q0 q0 => ?_; simp only [↓bO, go_sem, seval]; refine q0 _ ?_; clear q0 Q0; simp only [go_sem])
     simp only [↓bO, go_sem, seval]
     try simp only [maskL, setsL, putsO, putO, mB, List.set_cons_zero, List.set_cons_succ, seval]
     refine Weak.mk ?_ (fun _ _ h => h) rfl rfl
     simp only [go_sem, Le.refl, Le.any]
     all_goals (refine Le.of_eq (congrArg (fun b => AV.v (.bool b)) ?_); rw [Bool.eq_iff_iff]; simp at *; omega)
    ·
     simp only [List.set_cons_zero, List.set_cons_succ]
     iterate 2 (refine aops_chunk 2 fun Q0 q0 => ?_; simp only [↓bO, go_sem, seval]; refine q0 _ ?_; clear q0 Q0; simp only [go_sem])
     simp only [↓bO, go_sem, seval]
     try simp only [maskL, setsL, putsO, putO, mB, List.set_cons_zero, List.set_cons_succ, seval]
     refine Weak.mk ?_ (fun _ _ h => h) rfl rfl
     simp only [go_sem, Le.refl, Le.any]
     all_goals (refine Le.of_eq (congrArg (fun b => AV.v (.bool b)) ?_); rw [Bool.eq_iff_iff]; simp at *; omega)
   simp only [maskL, setsL, putsO, putO, mB, List.set_cons_zero, List.set_cons_succ, seval]
   refine AWp_cond rfl (fun hb26 => ?_) (fun hb26 => ?_)
   ·
    refine AWp_seqK fun Y1 y1 => ?_
    refine AWp_region ?_
    simp only [↓bO, go_sem, seval]
    refine y1 _ ?_
    try clear y1 Y1
    refine AWp_ret ?_
    try simp only [thenQ, blockQ, noGotoQ, retQ, aRes, tupOf, bS, bA]
    refine Le.of_eq ?_
    rw [Ty.right_eq]
    all_goals try simp only [decide_eq_true_eq, decide_eq_false_iff_not] at hb8
    all_goals try simp only [decide_eq_true_eq, decide_eq_false_iff_not] at hb26
    all_goals try simp only [decide_eq_true_eq, decide_eq_false_iff_not] at hb35
    all_goals try simp only [decide_eq_true_eq, decide_eq_false_iff_not] at hb48
    all_goals try simp only [decide_eq_true_eq, decide_eq_false_iff_not] at hb56
    all_goals try simp only [decide_eq_true_eq, decide_eq_false_iff_not] at hb68
    first | (have e1 : okN T.k T.n T.ps.length = false := (by simp only [okN, decide_eq_false_iff_not]; omega); rw [e1]; rfl) | (rw [all_false_of hp (by simpa using hb88)]; simp; done) | (have e1 : okN T.k T.n T.ps.length = true := (by simp only [okN, decide_eq_true_eq]; omega); rw [e1, all_true_of (f := Ty.right) (fun i p hi h1 => hs.2 i p (by omega) h1)]; rfl)
   ·
    refine AWp_joinM (mB 89 34359738378) ([(35, .v (.bool (decide ((T.k = 2 ∨ T.k = 3) ∧ 0 < T.ps.length))))]) ([]) ?_ ?_
    ·
     refine AWp_region ?_
     iterate 2 (refine aops_chunk 2 fun Q0 q0 => ?_; simp only [↓bO, go_sem, seval]; refine q0 _ ?_; clear q0 Q0; simp only [go_sem])
     refine aops_case 39 rfl (fun hc39 => ?_) (fun hc39 => ?_)
     ·
      simp only [List.set_cons_zero, List.set_cons_succ]
      iterate 4 (refine aops_chunk 2 fun Q0 q0 => ?_; simp only [↓bO, go_sem, seval]; refine q0 _ ?_; clear q0 Q0; simp only [go_sem])
      simp only [↓bO, go_sem, seval]
      try simp only [maskL, setsL, putsO, putO, mB, List.set_cons_zero, List.set_cons_succ, seval]
      refine Weak.mk ?_ (fun _ _ h => h) rfl rfl
      simp only [go_sem, Le.refl, Le.any]
      all_goals (refine Le.of_eq (congrArg (fun b => AV.v (.bool b)) ?_); rw [Bool.eq_iff_iff]; simp at *; omega)
     ·
      simp only [List.set_cons_zero, List.set_cons_succ]
      iterate 2 (refine aops_chunk 2 fun Q0 q0 => ?_; simp only [↓bO, go_sem, seval]; refine q0 _ ?_; clear q0 Q0; simp only [go_sem])
      refine aops_chunk 1 fun Q0 q0 => ?_
      simp only [↓bO, go_sem, seval]
      refine q0 _ ?_
      clear q0 Q0
      simp only [go_sem]
      refine aops_case 44 rfl (fun hc44 => ?_) (fun hc44 => ?_)
      ·
       simp only [List.set_cons_zero, List.set_cons_succ]
       refine aops_chunk 2 fun Q0 q0 => ?_
       simp only [↓bO, go_sem, seval]
       refine q0 _ ?_
       clear q0 Q0
       simp only [go_sem]
       simp only [↓bO, go_sem, seval]
       try simp only [maskL, setsL, putsO, putO, mB, List.set_cons_zero, List.set_cons_succ, seval]
       refine Weak.mk ?_ (fun _ _ h => h) rfl rfl
       simp only [go_sem, Le.refl, Le.any]
       all_goals (refine Le.of_eq (congrArg (fun b => AV.v (.bool b)) ?_); rw [Bool.eq_iff_iff]; simp at *; omega)
      ·
       simp only [List.set_cons_zero, List.set_cons_succ]
       refine aops_chunk 2 fun Q0 q0 => ?_
       simp only [↓bO, go_sem, seval]
       refine q0 _ ?_
       clear q0 Q0
       simp only [go_sem]
       simp only [↓bO, go_sem, seval]
       try simp only [maskL, setsL, putsO, putO, mB, List.set_cons_zero, List.set_cons_succ, seval]
       refine Weak.mk ?_ (fun _ _ h => h) rfl rfl
       simp only [go_sem, Le.refl, Le.any]
       all_goals (refine Le.of_eq (congrArg (fun b => AV.v (.bool b)) ?_); rw [Bool.eq_iff_iff]; simp at *; omega)
    simp only [maskL, setsL, putsO, putO, mB, List.set_cons_zero, List.set_cons_succ, seval]
    refine AWp_cond rfl (fun hb35 => ?_) (fun hb35 => ?_)
    ·
     refine AWp_seqK fun Y1 y1 => ?_
     refine AWp_region ?_
     simp only [↓bO, go_sem, seval]
     refine y1 _ ?_
     try clear y1 Y1
     refine AWp_ret ?_
     try simp only [thenQ, blockQ, noGotoQ, retQ, aRes, tupOf, bS, bA]
     refine Le.of_eq ?_
     rw [Ty.right_eq]
     all_goals try simp only [decide_eq_true_eq, decide_eq_false_iff_not] at hb8
     all_goals try simp only [decide_eq_true_eq, decide_eq_false_iff_not] at hb26
     all_goals try simp only [decide_eq_true_eq, decide_eq_false_iff_not] at hb35
     all_goals try simp only [decide_eq_true_eq, decide_eq_false_iff_not] at hb48
     all_goals try simp only [decide_eq_true_eq, decide_eq_false_iff_not] at hb56
     all_goals try simp only [decide_eq_true_eq, decide_eq_false_iff_not] at hb68
     first | (have e1 : okN T.k T.n T.ps.length = false := (by simp only [okN, decide_eq_false_iff_not]; omega); rw [e1]; rfl) | (rw [all_false_of hp (by simpa using hb88)]; simp; done) | (have e1 : okN T.k T.n T.ps.length = true := (by simp only [okN, decide_eq_true_eq]; omega); rw [e1, all_true_of (f := Ty.right) (fun i p hi h1 => hs.2 i p (by omega) h1)]; rfl)
    ·
     refine AWp_joinM (mB 89 281474976710666) ([(48, .v (.bool (decide (T.k = 4 ∧ T.ps.length ≠ 2))))]) ([]) ?_ ?_
     ·
      refine AWp_region ?_
      iterate 2 (refine aops_chunk 2 fun Q0 q0 => ?_; simp only [↓bO, go_sem, seval]; refine q0 _ ?_; clear q0 Q0; simp only [go_sem])
      refine aops_case 52 rfl (fun hc52 => ?_) (fun hc52 => ?_)
      ·
       simp only [List.set_cons_zero, List.set_cons_succ]
       refine aops_chunk 2 fun Q0 q0 => ?_
       simp only [↓bO, go_sem, seval]
       refine q0 _ ?_
       clear q0 Q0
       simp only [go_sem]
       simp only [↓bO, go_sem, seval]
       try simp only [maskL, setsL, putsO, putO, mB, List.set_cons_zero, List.set_cons_succ, seval]
       refine Weak.mk ?_ (fun _ _ h => h) rfl rfl
       simp only [go_sem, Le.refl, Le.any]
       all_goals (refine Le.of_eq (congrArg (fun b => AV.v (.bool b)) ?_); rw [Bool.eq_iff_iff]; simp at *; omega)
      ·
       simp only [List.set_cons_zero, List.set_cons_succ]
       refine aops_chunk 2 fun Q0 q0 => ?_
       simp only [↓bO, go_sem, seval]
       refine q0 _ ?_
       clear q0 Q0
       simp only [go_sem]
       simp only [↓bO, go_sem, seval]
       try simp only [maskL, setsL, putsO, putO, mB, List.set_cons_zero, List.set_cons_succ, seval]
       refine Weak.mk ?_ (fun _ _ h => h) rfl rfl
       simp only [go_sem, Le.refl, Le.any]
       all_goals (refine Le.of_eq (congrArg (fun b => AV.v (.bool b)) ?_); rw [Bool.eq_iff_iff]; simp at *; omega)
     simp only [maskL, setsL, putsO, putO, mB, List.set_cons_zero, List.set_cons_succ, seval]
     refine AWp_cond rfl (fun hb48 => ?_) (fun hb48 => ?_)
     ·
      refine AWp_seqK fun Y1 y1 => ?_
      refine AWp_region ?_
      simp only [↓bO, go_sem, seval]
      refine y1 _ ?_
      try clear y1 Y1
      refine AWp_ret ?_
      try simp only [thenQ, blockQ, noGotoQ, retQ, aRes, tupOf, bS, bA]
      refine Le.of_eq ?_
      rw [Ty.right_eq]
      all_goals try simp only [decide_eq_true_eq, decide_eq_false_iff_not] at hb8
      all_goals try simp only [decide_eq_true_eq, decide_eq_false_iff_not] at hb26
      all_goals try simp only [decide_eq_true_eq, decide_eq_false_iff_not] at hb35
      all_goals try simp only [decide_eq_true_eq, decide_eq_false_iff_not] at hb48
      all_goals try simp only [decide_eq_true_eq, decide_eq_false_iff_not] at hb56
      all_goals try simp only [decide_eq_true_eq, decide_eq_false_iff_not] at hb68
      first | (have e1 : okN T.k T.n T.ps.length = false := (by simp only [okN, decide_eq_false_iff_not]; omega); rw [e1]; rfl) | (rw [all_false_of hp (by simpa using hb88)]; simp; done) | (have e1 : okN T.k T.n T.ps.length = true := (by simp only [okN, decide_eq_true_eq]; omega); rw [e1, all_true_of (f := Ty.right) (fun i p hi h1 => hs.2 i p (by omega) h1)]; rfl)
     ·
      refine AWp_joinM (mB 89 72057594037927946) ([(56, .v (.bool (decide (T.k = 5 ∧ (T.ps.length < 2 ∨ 8 < T.ps.length)))))]) ([]) ?_ ?_
      ·
       refine AWp_region ?_
       iterate 2 (refine aops_chunk 2 fun Q0 q0 => ?_; simp only [↓bO, go_sem, seval]; refine q0 _ ?_; clear q0 Q0; simp only [go_sem])
       refine aops_case 60 rfl (fun hc60 => ?_) (fun hc60 => ?_)
       ·
        simp only [List.set_cons_zero, List.set_cons_succ]
        refine aops_chunk 2 fun Q0 q0 => ?_
        simp only [↓bO, go_sem, seval]
        refine q0 _ ?_
        clear q0 Q0
        simp only [go_sem]
        refine aops_chunk 1 fun Q0 q0 => ?_
        simp only [↓bO, go_sem, seval]
        refine q0 _ ?_
        clear q0 Q0
        simp only [go_sem]
        refine aops_case 63 rfl (fun hc63 => ?_) (fun hc63 => ?_)
        ·
         simp only [List.set_cons_zero, List.set_cons_succ]
         iterate 2 (refine aops_chunk 2 fun Q0 q0 => ?_; simp only [↓bO, go_sem, seval]; refine q0 _ ?_; clear q0 Q0; simp only [go_sem])
         simp only [↓bO, go_sem, seval]
         try simp only [maskL, setsL, putsO, putO, mB, List.set_cons_zero, List.set_cons_succ, seval]
         refine Weak.mk ?_ (fun _ _ h => h) rfl rfl
         simp only [go_sem, Le.refl, Le.any]
         all_goals (refine Le.of_eq (congrArg (fun b => AV.v (.bool b)) ?_); rw [Bool.eq_iff_iff]; simp at *; omega)
        ·
         simp only [List.set_cons_zero, List.set_cons_succ]
         iterate 2 (refine aops_chunk 2 fun Q0 q0 => ?_; simp only [↓bO, go_sem, seval]; refine q0 _ ?_; clear q0 Q0; simp only [go_sem])
         simp only [↓bO, go_sem, seval]
         try simp only [maskL, setsL, putsO, putO, mB, List.set_cons_zero, List.set_cons_succ, seval]
         refine Weak.mk ?_ (fun _ _ h => h) rfl rfl
         simp only [go_sem, Le.refl, Le.any]
         all_goals (refine Le.of_eq (congrArg (fun b => AV.v (.bool b)) ?_); rw [Bool.eq_iff_iff]; simp at *; omega)
       ·
        simp only [List.set_cons_zero, List.set_cons_succ]
        iterate 3 (refine aops_chunk 2 fun Q0 q0 => ?_; simp only [↓bO, go_sem, seval]; refine q0 _ ?_; clear q0 Q0; simp only [go_sem])
        simp only [↓bO, go_sem, seval]
        try simp only [maskL, setsL, putsO, putO, mB, List.set_cons_zero, List.set_cons_succ, seval]
        refine Weak.mk ?_ (fun _ _ h => h) rfl rfl
        simp only [go_sem, Le.refl, Le.any]
        all_goals (refine Le.of_eq (congrArg (fun b => AV.v (.bool b)) ?_); rw [Bool.eq_iff_iff]; simp at *; omega)
      simp only [maskL, setsL, putsO, putO, mB, List.set_cons_zero, List.set_cons_succ, seval]
      refine AWp_cond rfl (fun hb56 => ?_) (fun hb56 => ?_)
      ·
       refine AWp_seqK fun Y1 y1 => ?_
       refine AWp_region ?_
       simp only [↓bO, go_sem, seval]
       refine y1 _ ?_
       try clear y1 Y1
       refine AWp_ret ?_
       try simp only [thenQ, blockQ, noGotoQ, retQ, aRes, tupOf, bS, bA]
       refine Le.of_eq ?_
       rw [Ty.right_eq]
       all_goals try simp only [decide_eq_true_eq, decide_eq_false_iff_not] at hb8
       all_goals try simp only [decide_eq_true_eq, decide_eq_false_iff_not] at hb26
       all_goals try simp only [decide_eq_true_eq, decide_eq_false_iff_not] at hb35
       all_goals try simp only [decide_eq_true_eq, decide_eq_false_iff_not] at hb48
       all_goals try simp only [decide_eq_true_eq, decide_eq_false_iff_not] at hb56
       all_goals try simp only [decide_eq_true_eq, decide_eq_false_iff_not] at hb68
       first | (have e1 : okN T.k T.n T.ps.length = false := (by simp only [okN, decide_eq_false_iff_not]; omega); rw [e1]; rfl) | (rw [all_false_of hp (by simpa using hb88)]; simp; done) | (have e1 : okN T.k T.n T.ps.length = true := (by simp only [okN, decide_eq_true_eq]; omega); rw [e1, all_true_of (f := Ty.right) (fun i p hi h1 => hs.2 i p (by omega) h1)]; rfl)
      ·
       refine AWp_joinM (mB 89 295147905179352825866) ([(68, .v (.bool (decide (T.k < 1 ∨ 5 < T.k))))]) ([]) ?_ ?_
       ·
        refine AWp_region ?_
        iterate 2 (refine aops_chunk 2 fun Q0 q0 => ?_; simp only [↓bO, go_sem, seval]; refine q0 _ ?_; clear q0 Q0; simp only [go_sem])
        refine aops_case 72 rfl (fun hc72 => ?_) (fun hc72 => ?_)
        ·
         simp only [List.set_cons_zero, List.set_cons_succ]
         iterate 2 (refine aops_chunk 2 fun Q0 q0 => ?_; simp only [↓bO, go_sem, seval]; refine q0 _ ?_; clear q0 Q0; simp only [go_sem])
         simp only [↓bO, go_sem, seval]
         try simp only [maskL, setsL, putsO, putO, mB, List.set_cons_zero, List.set_cons_succ, seval]
         refine Weak.mk ?_ (fun _ _ h => h) rfl rfl
         simp only [go_sem, Le.refl, Le.any]
         all_goals (refine Le.of_eq (congrArg (fun b => AV.v (.bool b)) ?_); rw [Bool.eq_iff_iff]; simp at *; omega)
        ·
         simp only [List.set_cons_zero, List.set_cons_succ]
         iterate 2 (refine aops_chunk 2 fun Q0 q0 => ?_; simp only [↓bO, go_sem, seval]; refine q0 _ ?_; clear q0 Q0; simp only [go_sem])
         simp only [↓bO, go_sem, seval]
         try simp only [maskL, setsL, putsO, putO, mB, List.set_cons_zero, List.set_cons_succ, seval]
         refine Weak.mk ?_ (fun _ _ h => h) rfl rfl
         simp only [go_sem, Le.refl, Le.any]
         all_goals (refine Le.of_eq (congrArg (fun b => AV.v (.bool b)) ?_); rw [Bool.eq_iff_iff]; simp at *; omega)
       simp only [maskL, setsL, putsO, putO, mB, List.set_cons_zero, List.set_cons_succ, seval]
       refine AWp_cond rfl (fun hb68 => ?_) (fun hb68 => ?_)
       ·
        refine AWp_seqK fun Y1 y1 => ?_
        refine AWp_region ?_
        simp only [↓bO, go_sem, seval]
        refine y1 _ ?_
        try clear y1 Y1
        refine AWp_ret ?_
        try simp only [thenQ, blockQ, noGotoQ, retQ, aRes, tupOf, bS, bA]
        refine Le.of_eq ?_
        rw [Ty.right_eq]
        all_goals try simp only [decide_eq_true_eq, decide_eq_false_iff_not] at hb8
        all_goals try simp only [decide_eq_true_eq, decide_eq_false_iff_not] at hb26
        all_goals try simp only [decide_eq_true_eq, decide_eq_false_iff_not] at hb35
        all_goals try simp only [decide_eq_true_eq, decide_eq_false_iff_not] at hb48
        all_goals try simp only [decide_eq_true_eq, decide_eq_false_iff_not] at hb56
        all_goals try simp only [decide_eq_true_eq, decide_eq_false_iff_not] at hb68
        first | (have e1 : okN T.k T.n T.ps.length = false := (by simp only [okN, decide_eq_false_iff_not]; omega); rw [e1]; rfl) | (rw [all_false_of hp (by simpa using hb88)]; simp; done) | (have e1 : okN T.k T.n T.ps.length = true := (by simp only [okN, decide_eq_true_eq]; omega); rw [e1, all_true_of (f := Ty.right) (fun i p hi h1 => hs.2 i p (by omega) h1)]; rfl)
       ·
        refine AWp_skip ?_
        try simp only [thenQ, blockQ, noGotoQ]
        refine y0 _ ?_
        try clear y0 Y0
        refine AWp_seqK fun Y0 y0 => ?_
        refine AWp_seqK fun Y1 y1 => ?_
        refine AWp_region ?_
        simp only [↓bO, go_sem, seval]
        refine y1 _ ?_
        try clear y1 Y1
        refine AWp_block ?_
        refine AWp_loopM (σ := Nat) (mB 89 26) (fun s => s ≤ T.ps.length ∧ ∀ (i : Nat) (p : Ty), i < s → T.ps[i]? = some p → p.right = true) (fun s => [(4, .v (.int .i64 (s : Int)))]) (fun s => []) (fun s => T.ps.length - s) 0 (⟨by omega, fun i p hi => by omega⟩) ?_ (fun s hs => ?_)
        ·
         simp only [maskL, setsL, putsO, putO, mB, List.set_cons_zero, List.set_cons_succ, seval]
         exact Weak.mk (by simp only [go_sem, Le.refl, Le.any, Le.slNil, Int.natCast_add, Int.cast_ofNat_Int, Int.natCast_one]) (fun _ _ h => h) rfl rfl
        simp only [maskL, setsL, putsO, putO, mB, List.set_cons_zero, List.set_cons_succ, seval]
        refine AWp_seqK fun Y1 y1 => ?_
        refine AWp_seqK fun Y2 y2 => ?_
        refine AWp_region ?_
        refine aops_chunk 2 fun Q0 q0 => ?_
        simp only [↓bO, go_sem, seval]
        refine q0 _ ?_
        clear q0 Q0
        simp only [go_sem]
        simp only [↓bO, go_sem, seval]
        refine y2 _ ?_
        try clear y2 Y2
        refine AWp_cond rfl (fun hb79 => ?_) (fun hb79 => ?_)
        ·
         have hk : s < T.ps.length := by simpa using hb79
         obtain ⟨p, hp⟩ : ∃ p, T.ps[s]? = some p := ⟨_, List.getElem?_eq_getElem hk⟩
         have hw : IntKind.i64.wrap ((s : Int) + 1) = (s : Int) + 1 := wrap_in (by omega) (by have := hm1.len; simp only [maxLen] at this; omega)
         refine AWp_skip ?_
         try simp only [thenQ, blockQ, noGotoQ]
         refine y1 _ ?_
         try clear y1 Y1
         refine AWp_seqK fun Y1 y1 => ?_
         refine AWp_block ?_
         refine AWp_seqK fun Y2 y2 => ?_
         refine AWp_region ?_
         iterate 2 (refine aops_chunk 2 fun Q0 q0 => ?_; simp only [↓bO, go_sem, seval, hk, gM hp, Int.natCast_add, hw]; refine q0 _ ?_; clear q0 Q0; simp only [go_sem])
         refine aops_chunk 1 fun Q0 q0 => ?_
         simp only [↓bO, go_sem, seval, hk, gM hp, Int.natCast_add, hw]
         refine q0 _ ?_
         clear q0 Q0
         simp only [go_sem]
         refine aops_chunk 1 fun Q0 q0 => ?_
         simp only [↓bO, go_sem, seval, hk, gM hp, Int.natCast_add, hw]
         refine APure.call (ih p (List.mem_of_getElem? hp)) ?_
         try simp only [bS, bA, thenQ, blockQ, noGotoQ]
         refine q0 _ ?_
         clear q0 Q0
         simp only [go_sem]
         simp only [↓bO, go_sem, seval, hk, gM hp, Int.natCast_add, hw]
         refine y2 _ ?_
         try clear y2 Y2
         refine AWp_cond rfl (fun hb88 => ?_) (fun hb88 => ?_)
         ·
          refine AWp_seqK fun Y2 y2 => ?_
          refine AWp_region ?_
          simp only [↓bO, go_sem, seval, hk, gM hp, Int.natCast_add, hw]
          refine y2 _ ?_
          try clear y2 Y2
          refine AWp_ret ?_
          try simp only [thenQ, blockQ, noGotoQ, retQ, aRes, tupOf, bS, bA]
          refine Le.of_eq ?_
          rw [Ty.right_eq]
          all_goals try simp only [decide_eq_true_eq, decide_eq_false_iff_not] at hb8
          all_goals try simp only [decide_eq_true_eq, decide_eq_false_iff_not] at hb26
          all_goals try simp only [decide_eq_true_eq, decide_eq_false_iff_not] at hb35
          all_goals try simp only [decide_eq_true_eq, decide_eq_false_iff_not] at hb48
          all_goals try simp only [decide_eq_true_eq, decide_eq_false_iff_not] at hb56
          all_goals try simp only [decide_eq_true_eq, decide_eq_false_iff_not] at hb68
          first | (have e1 : okN T.k T.n T.ps.length = false := (by simp only [okN, decide_eq_false_iff_not]; omega); rw [e1]; rfl) | (rw [all_false_of hp (by simpa using hb88)]; simp; done) | (have e1 : okN T.k T.n T.ps.length = true := (by simp only [okN, decide_eq_true_eq]; omega); rw [e1, all_true_of (f := Ty.right) (fun i p hi h1 => hs.2 i p (by omega) h1)]; rfl)
         ·
          refine AWp_skip ?_
          try simp only [thenQ, blockQ, noGotoQ]
          refine y1 _ ?_
          try clear y1 Y1
          refine AWp_region ?_
          refine aops_chunk 2 fun Q0 q0 => ?_
          simp only [↓bO, go_sem, seval, hk, gM hp, Int.natCast_add, hw]
          refine q0 _ ?_
          clear q0 Q0
          simp only [go_sem]
          simp only [↓bO, go_sem, seval, hk, gM hp, Int.natCast_add, hw]
          refine ⟨(s + 1), ⟨by omega, fun i p' hi h1 => (by rcases Nat.lt_or_ge i s with h3 | h3 <;> first | exact hs.2 i p' h3 h1 | (obtain rfl : i = s := (by omega); rw [hp] at h1; cases h1; simpa using hb88))⟩, by omega, ?_⟩
          simp only [maskL, setsL, putsO, putO, mB, List.set_cons_zero, List.set_cons_succ, seval, hk, gM hp, Int.natCast_add, Int.natCast_one, hw]
          exact Weak.mk (by simp only [go_sem, Le.refl, Le.any, Le.slNil, Int.natCast_add, Int.cast_ofNat_Int, Int.natCast_one]) (fun _ _ h => h) rfl rfl
        ·
         have hk : s = T.ps.length := by have := hs.1; simp at hb79; omega
         refine AWp_exit ?_
         simp only [thenQ, blockQ, noGotoQ, bA, Nat.reduceEqDiff, ↓reduceIte]
         refine y0 _ ?_
         try clear y0 Y0
         refine AWp_seqK fun Y0 y0 => ?_
         refine AWp_region ?_
         simp only [↓bO, go_sem, seval]
         refine y0 _ ?_
         try clear y0 Y0
         refine AWp_ret ?_
         try simp only [thenQ, blockQ, noGotoQ, retQ, aRes, tupOf, bS, bA]
         refine Le.of_eq ?_
         rw [Ty.right_eq]
         all_goals try simp only [decide_eq_true_eq, decide_eq_false_iff_not] at hb8
         all_goals try simp only [decide_eq_true_eq, decide_eq_false_iff_not] at hb26
         all_goals try simp only [decide_eq_true_eq, decide_eq_false_iff_not] at hb35
         all_goals try simp only [decide_eq_true_eq, decide_eq_false_iff_not] at hb48
         all_goals try simp only [decide_eq_true_eq, decide_eq_false_iff_not] at hb56
         all_goals try simp only [decide_eq_true_eq, decide_eq_false_iff_not] at hb68
         first | (have e1 : okN T.k T.n T.ps.length = false := (by simp only [okN, decide_eq_false_iff_not]; omega); rw [e1]; rfl) | (rw [all_false_of hp (by simpa using hb88)]; simp; done) | (have e1 : okN T.k T.n T.ps.length = true := (by simp only [okN, decide_eq_true_eq]; omega); rw [e1, all_true_of (f := Ty.right) (fun i p hi h1 => hs.2 i p (by omega) h1)]; rfl)
theorem known_pure (n : Int) : APure Tryd.prog 58 [.v (.int .i64 n)] (.v (.bool (decide (0 ≤ n ∧ n < 1073741824)))) := by
  refine APure.mkL (.cons (.v _) .nil) (.v _) ?_
  refine ACalls_intro Tryd.func58 (by kernel_rfl) rfl (by rw [Tryd.ntmps58]; simp) (fun hm => ?_)
  simp only [Tryd.ntmps58, Tryd.results58, List.length_cons, List.length_nil, Nat.reduceAdd, Nat.reduceSub, List.replicate_succ, List.replicate_zero, List.cons_append, List.nil_append]
  refine AWp_seqK fun Y0 y0 => ?_
  refine AWp_region ?_
  simp only [↓bO, go_sem, seval]
  refine y0 _ ?_
  try clear y0 Y0
  refine AWp_seqK fun Y0 y0 => ?_
  refine AWp_region ?_
  refine aops_chunk 3 fun Q0 q0 => ?_
  simp only [↓bO, go_sem, seval]
  refine q0 _ ?_
  clear q0 Q0
  simp only [go_sem]
  refine aops_case 5 rfl (fun hc5 => ?_) (fun hc5 => ?_)
  ·
   simp only [List.set_cons_zero, List.set_cons_succ]
   simp only [↓bO, go_sem, seval]
   refine y0 _ ?_
   try clear y0 Y0
   refine AWp_ret ?_
   try simp only [thenQ, blockQ, noGotoQ, retQ, aRes, tupOf, bS, bA]
   refine Le.of_eq (congrArg (fun b => AV.v (.bool b)) ?_)
   simp at *; omega
  ·
   simp only [List.set_cons_zero, List.set_cons_succ]
   simp only [↓bO, go_sem, seval]
   refine y0 _ ?_
   try clear y0 Y0
   refine AWp_ret ?_
   try simp only [thenQ, blockQ, noGotoQ, retQ, aRes, tupOf, bS, bA]
   refine Le.of_eq (congrArg (fun b => AV.v (.bool b)) ?_)
   simp at *; omega
theorem plain_pure (T : Ty) : APure Tryd.prog 33 [.agg T.cells] (.v (.bool (okN T.k T.n T.ps.length))) := by
  refine APure.mkL (.cons T.dataAgg .nil) (.v _) ?_
  refine ACalls_intro Tryd.func33 (by kernel_rfl) rfl (by rw [Tryd.ntmps33]; simp) (fun hm => ?_)
  simp only [Tryd.ntmps33, Tryd.results33, List.length_cons, List.length_nil, Nat.reduceAdd, Nat.reduceSub, List.replicate_succ, List.replicate_zero, List.cons_append, List.nil_append]
  refine AWp_seqK fun Y0 y0 => ?_
  refine AWp_region ?_
  simp only [↓bO, go_sem, seval]
  refine y0 _ ?_
  try clear y0 Y0
  refine AWp_seqK fun Y0 y0 => ?_
  refine AWp_region ?_
  refine aops_chunk 3 fun Q0 q0 => ?_
  simp only [↓bO, go_sem, seval]
  refine q0 _ ?_
  clear q0 Q0
  simp only [go_sem]
  simp only [↓bO, go_sem, seval]
  refine y0 _ ?_
  try clear y0 Y0
  refine AWp_seqK fun Y0 y0 => ?_
  refine AWp_seqK fun Y1 y1 => ?_
  refine AWp_region ?_
  simp only [↓bO, go_sem, seval]
  refine y1 _ ?_
  try clear y1 Y1
  refine AWp_block ?_
  refine AWp_seqK fun Y1 y1 => ?_
  refine AWp_region ?_
  simp only [↓bO, go_sem, seval]
  refine y1 _ ?_
  try clear y1 Y1
  refine AWp_cond rfl (fun hb9 => ?_) (fun hb9 => ?_)
  ·
   refine AWp_seqK fun Y1 y1 => ?_
   refine AWp_region ?_
   refine aops_chunk 2 fun Q0 q0 => ?_
   simp only [↓bO, go_sem, seval]
   refine q0 _ ?_
   clear q0 Q0
   simp only [go_sem]
   refine aops_chunk 1 fun Q0 q0 => ?_
   simp only [↓bO, go_sem, seval]
   refine APure.call (known_pure T.n) ?_
   try simp only [bS, bA, thenQ, blockQ, noGotoQ]
   refine q0 _ ?_
   clear q0 Q0
   simp only [go_sem]
   refine aops_chunk 1 fun Q0 q0 => ?_
   simp only [↓bO, go_sem, seval]
   refine q0 _ ?_
   clear q0 Q0
   simp only [go_sem]
   refine aops_case 14 rfl (fun hc14 => ?_) (fun hc14 => ?_)
   ·
    simp only [List.set_cons_zero, List.set_cons_succ]
    refine aops_chunk 3 fun Q0 q0 => ?_
    simp only [↓bO, go_sem, seval]
    refine q0 _ ?_
    clear q0 Q0
    simp only [go_sem]
    simp only [↓bO, go_sem, seval]
    refine y1 _ ?_
    try clear y1 Y1
    refine AWp_ret ?_
    try simp only [thenQ, blockQ, noGotoQ, retQ, aRes, tupOf, bS, bA]
    refine Le.of_eq (congrArg (fun b => AV.v (.bool b)) ?_)
    rw [Bool.eq_iff_iff]
    simp only [okN, decide_eq_true_eq, beq_iff_eq, Bool.false_eq_true, beq_eq_false_iff_ne, ne_eq, decide_eq_false_iff_not, false_iff, true_iff, and_true, true_and] at *
    try omega
   ·
    simp only [List.set_cons_zero, List.set_cons_succ]
    refine aops_chunk 3 fun Q0 q0 => ?_
    simp only [↓bO, go_sem, seval]
    refine q0 _ ?_
    clear q0 Q0
    simp only [go_sem]
    simp only [↓bO, go_sem, seval]
    refine y1 _ ?_
    try clear y1 Y1
    refine AWp_ret ?_
    try simp only [thenQ, blockQ, noGotoQ, retQ, aRes, tupOf, bS, bA]
    refine Le.of_eq (congrArg (fun b => AV.v (.bool b)) ?_)
    rw [Bool.eq_iff_iff]
    simp only [okN, decide_eq_true_eq, beq_iff_eq, Bool.false_eq_true, beq_eq_false_iff_ne, ne_eq, decide_eq_false_iff_not, false_iff, true_iff, and_true, true_and] at *
    try omega
  ·
   refine AWp_seqK fun Y1 y1 => ?_
   refine AWp_seqK fun Y2 y2 => ?_
   refine AWp_region ?_
   simp only [↓bO, go_sem, seval]
   refine y2 _ ?_
   try clear y2 Y2
   refine AWp_cond rfl (fun hb18 => ?_) (fun hb18 => ?_)
   ·
    refine AWp_skip ?_
    try simp only [thenQ, blockQ, noGotoQ]
    refine y1 _ ?_
    try clear y1 Y1
    refine AWp_cond (b := true) (by first | exact rfl | exact congrArg (fun b => AV.v (.bool b)) hb18) (fun _ => ?_) (fun h => (by cases h))
    refine AWp_seqK fun Y1 y1 => ?_
    refine AWp_region ?_
    refine aops_chunk 3 fun Q0 q0 => ?_
    simp only [↓bO, go_sem, seval]
    refine q0 _ ?_
    clear q0 Q0
    simp only [go_sem]
    refine aops_chunk 1 fun Q0 q0 => ?_
    simp only [↓bO, go_sem, seval]
    refine q0 _ ?_
    clear q0 Q0
    simp only [go_sem]
    refine aops_case 24 rfl (fun hc24 => ?_) (fun hc24 => ?_)
    ·
     simp only [List.set_cons_zero, List.set_cons_succ]
     refine aops_chunk 3 fun Q0 q0 => ?_
     simp only [↓bO, go_sem, seval]
     refine q0 _ ?_
     clear q0 Q0
     simp only [go_sem]
     simp only [↓bO, go_sem, seval]
     refine y1 _ ?_
     try clear y1 Y1
     refine AWp_ret ?_
     try simp only [thenQ, blockQ, noGotoQ, retQ, aRes, tupOf, bS, bA]
     refine Le.of_eq (congrArg (fun b => AV.v (.bool b)) ?_)
     rw [Bool.eq_iff_iff]
     simp only [okN, decide_eq_true_eq, beq_iff_eq, Bool.false_eq_true, beq_eq_false_iff_ne, ne_eq, decide_eq_false_iff_not, false_iff, true_iff, and_true, true_and] at *
     try omega
    ·
     simp only [List.set_cons_zero, List.set_cons_succ]
     refine aops_chunk 3 fun Q0 q0 => ?_
     simp only [↓bO, go_sem, seval]
     refine q0 _ ?_
     clear q0 Q0
     simp only [go_sem]
     simp only [↓bO, go_sem, seval]
     refine y1 _ ?_
     try clear y1 Y1
     refine AWp_ret ?_
     try simp only [thenQ, blockQ, noGotoQ, retQ, aRes, tupOf, bS, bA]
     refine Le.of_eq (congrArg (fun b => AV.v (.bool b)) ?_)
     rw [Bool.eq_iff_iff]
     simp only [okN, decide_eq_true_eq, beq_iff_eq, Bool.false_eq_true, beq_eq_false_iff_ne, ne_eq, decide_eq_false_iff_not, false_iff, true_iff, and_true, true_and] at *
     try omega
   ·
    refine AWp_region ?_
    simp only [↓bO, go_sem, seval]
    refine y1 _ ?_
    try clear y1 Y1
    refine AWp_cond rfl (fun hb18 => ?_) (fun hb18 => ?_)
    ·
     refine AWp_seqK fun Y1 y1 => ?_
     refine AWp_region ?_
     refine aops_chunk 3 fun Q0 q0 => ?_
     simp only [↓bO, go_sem, seval]
     refine q0 _ ?_
     clear q0 Q0
     simp only [go_sem]
     refine aops_chunk 1 fun Q0 q0 => ?_
     simp only [↓bO, go_sem, seval]
     refine q0 _ ?_
     clear q0 Q0
     simp only [go_sem]
     refine aops_case 24 rfl (fun hc24 => ?_) (fun hc24 => ?_)
     ·
      simp only [List.set_cons_zero, List.set_cons_succ]
      refine aops_chunk 3 fun Q0 q0 => ?_
      simp only [↓bO, go_sem, seval]
      refine q0 _ ?_
      clear q0 Q0
      simp only [go_sem]
      simp only [↓bO, go_sem, seval]
      refine y1 _ ?_
      try clear y1 Y1
      refine AWp_ret ?_
      try simp only [thenQ, blockQ, noGotoQ, retQ, aRes, tupOf, bS, bA]
      refine Le.of_eq (congrArg (fun b => AV.v (.bool b)) ?_)
      rw [Bool.eq_iff_iff]
      simp only [okN, decide_eq_true_eq, beq_iff_eq, Bool.false_eq_true, beq_eq_false_iff_ne, ne_eq, decide_eq_false_iff_not, false_iff, true_iff, and_true, true_and] at *
      try omega
     ·
      simp only [List.set_cons_zero, List.set_cons_succ]
      refine aops_chunk 3 fun Q0 q0 => ?_
      simp only [↓bO, go_sem, seval]
      refine q0 _ ?_
      clear q0 Q0
      simp only [go_sem]
      simp only [↓bO, go_sem, seval]
      refine y1 _ ?_
      try clear y1 Y1
      refine AWp_ret ?_
      try simp only [thenQ, blockQ, noGotoQ, retQ, aRes, tupOf, bS, bA]
      refine Le.of_eq (congrArg (fun b => AV.v (.bool b)) ?_)
      rw [Bool.eq_iff_iff]
      simp only [okN, decide_eq_true_eq, beq_iff_eq, Bool.false_eq_true, beq_eq_false_iff_ne, ne_eq, decide_eq_false_iff_not, false_iff, true_iff, and_true, true_and] at *
      try omega
    ·
     refine AWp_seqK fun Y1 y1 => ?_
     refine AWp_region ?_
     simp only [↓bO, go_sem, seval]
     refine y1 _ ?_
     try clear y1 Y1
     refine AWp_cond rfl (fun hb28 => ?_) (fun hb28 => ?_)
     ·
      refine AWp_seqK fun Y1 y1 => ?_
      refine AWp_region ?_
      refine aops_chunk 3 fun Q0 q0 => ?_
      simp only [↓bO, go_sem, seval]
      refine q0 _ ?_
      clear q0 Q0
      simp only [go_sem]
      refine aops_chunk 1 fun Q0 q0 => ?_
      simp only [↓bO, go_sem, seval]
      refine q0 _ ?_
      clear q0 Q0
      simp only [go_sem]
      refine aops_case 33 rfl (fun hc33 => ?_) (fun hc33 => ?_)
      ·
       simp only [List.set_cons_zero, List.set_cons_succ]
       refine aops_chunk 3 fun Q0 q0 => ?_
       simp only [↓bO, go_sem, seval]
       refine q0 _ ?_
       clear q0 Q0
       simp only [go_sem]
       simp only [↓bO, go_sem, seval]
       refine y1 _ ?_
       try clear y1 Y1
       refine AWp_ret ?_
       try simp only [thenQ, blockQ, noGotoQ, retQ, aRes, tupOf, bS, bA]
       refine Le.of_eq (congrArg (fun b => AV.v (.bool b)) ?_)
       rw [Bool.eq_iff_iff]
       simp only [okN, decide_eq_true_eq, beq_iff_eq, Bool.false_eq_true, beq_eq_false_iff_ne, ne_eq, decide_eq_false_iff_not, false_iff, true_iff, and_true, true_and] at *
       try omega
      ·
       simp only [List.set_cons_zero, List.set_cons_succ]
       refine aops_chunk 3 fun Q0 q0 => ?_
       simp only [↓bO, go_sem, seval]
       refine q0 _ ?_
       clear q0 Q0
       simp only [go_sem]
       simp only [↓bO, go_sem, seval]
       refine y1 _ ?_
       try clear y1 Y1
       refine AWp_ret ?_
       try simp only [thenQ, blockQ, noGotoQ, retQ, aRes, tupOf, bS, bA]
       refine Le.of_eq (congrArg (fun b => AV.v (.bool b)) ?_)
       rw [Bool.eq_iff_iff]
       simp only [okN, decide_eq_true_eq, beq_iff_eq, Bool.false_eq_true, beq_eq_false_iff_ne, ne_eq, decide_eq_false_iff_not, false_iff, true_iff, and_true, true_and] at *
       try omega
     ·
      refine AWp_seqK fun Y1 y1 => ?_
      refine AWp_region ?_
      simp only [↓bO, go_sem, seval]
      refine y1 _ ?_
      try clear y1 Y1
      refine AWp_cond rfl (fun hb37 => ?_) (fun hb37 => ?_)
      ·
       refine AWp_seqK fun Y1 y1 => ?_
       refine AWp_region ?_
       refine aops_chunk 3 fun Q0 q0 => ?_
       simp only [↓bO, go_sem, seval]
       refine q0 _ ?_
       clear q0 Q0
       simp only [go_sem]
       refine aops_chunk 1 fun Q0 q0 => ?_
       simp only [↓bO, go_sem, seval]
       refine q0 _ ?_
       clear q0 Q0
       simp only [go_sem]
       refine aops_case 42 rfl (fun hc42 => ?_) (fun hc42 => ?_)
       ·
        simp only [List.set_cons_zero, List.set_cons_succ]
        refine aops_chunk 3 fun Q0 q0 => ?_
        simp only [↓bO, go_sem, seval]
        refine q0 _ ?_
        clear q0 Q0
        simp only [go_sem]
        refine aops_chunk 1 fun Q0 q0 => ?_
        simp only [↓bO, go_sem, seval]
        refine q0 _ ?_
        clear q0 Q0
        simp only [go_sem]
        refine aops_case 46 rfl (fun hc46 => ?_) (fun hc46 => ?_)
        ·
         simp only [List.set_cons_zero, List.set_cons_succ]
         refine aops_chunk 3 fun Q0 q0 => ?_
         simp only [↓bO, go_sem, seval]
         refine q0 _ ?_
         clear q0 Q0
         simp only [go_sem]
         simp only [↓bO, go_sem, seval]
         refine y1 _ ?_
         try clear y1 Y1
         refine AWp_ret ?_
         try simp only [thenQ, blockQ, noGotoQ, retQ, aRes, tupOf, bS, bA]
         refine Le.of_eq (congrArg (fun b => AV.v (.bool b)) ?_)
         rw [Bool.eq_iff_iff]
         simp only [okN, decide_eq_true_eq, beq_iff_eq, Bool.false_eq_true, beq_eq_false_iff_ne, ne_eq, decide_eq_false_iff_not, false_iff, true_iff, and_true, true_and] at *
         try omega
        ·
         simp only [List.set_cons_zero, List.set_cons_succ]
         refine aops_chunk 3 fun Q0 q0 => ?_
         simp only [↓bO, go_sem, seval]
         refine q0 _ ?_
         clear q0 Q0
         simp only [go_sem]
         simp only [↓bO, go_sem, seval]
         refine y1 _ ?_
         try clear y1 Y1
         refine AWp_ret ?_
         try simp only [thenQ, blockQ, noGotoQ, retQ, aRes, tupOf, bS, bA]
         refine Le.of_eq (congrArg (fun b => AV.v (.bool b)) ?_)
         rw [Bool.eq_iff_iff]
         simp only [okN, decide_eq_true_eq, beq_iff_eq, Bool.false_eq_true, beq_eq_false_iff_ne, ne_eq, decide_eq_false_iff_not, false_iff, true_iff, and_true, true_and] at *
         try omega
       ·
        simp only [List.set_cons_zero, List.set_cons_succ]
        iterate 2 (refine aops_chunk 3 fun Q0 q0 => ?_; simp only [↓bO, go_sem, seval]; refine q0 _ ?_; clear q0 Q0; simp only [go_sem])
        simp only [↓bO, go_sem, seval]
        refine y1 _ ?_
        try clear y1 Y1
        refine AWp_ret ?_
        try simp only [thenQ, blockQ, noGotoQ, retQ, aRes, tupOf, bS, bA]
        refine Le.of_eq (congrArg (fun b => AV.v (.bool b)) ?_)
        rw [Bool.eq_iff_iff]
        simp only [okN, decide_eq_true_eq, beq_iff_eq, Bool.false_eq_true, beq_eq_false_iff_ne, ne_eq, decide_eq_false_iff_not, false_iff, true_iff, and_true, true_and] at *
        try omega
      ·
       refine AWp_skip ?_
       try simp only [thenQ, blockQ, noGotoQ]
       refine y0 _ ?_
       try clear y0 Y0
       refine AWp_seqK fun Y0 y0 => ?_
       refine AWp_region ?_
       simp only [↓bO, go_sem, seval]
       refine y0 _ ?_
       try clear y0 Y0
       refine AWp_ret ?_
       try simp only [thenQ, blockQ, noGotoQ, retQ, aRes, tupOf, bS, bA]
       refine Le.of_eq (congrArg (fun b => AV.v (.bool b)) ?_)
       rw [Bool.eq_iff_iff]
       simp only [okN, decide_eq_true_eq, beq_iff_eq, Bool.false_eq_true, beq_eq_false_iff_ne, ne_eq, decide_eq_false_iff_not, false_iff, true_iff, and_true, true_and] at *
       try omega
theorem all_not_of {α : Type} {f : α → Bool} {ps : List α} {i : Nat} {p : α} (hp : ps[i]? = some p) (h : f p = true) : ps.any f = true := List.any_eq_true.2 ⟨p, List.mem_of_getElem? hp, h⟩
theorem any_false_of {α : Type} {f : α → Bool} {ps : List α} (h : ∀ (i : Nat) (p : α), i < ps.length → ps[i]? = some p → f p = false) : ps.any f = false := by
  rw [← Bool.not_eq_true, List.any_eq_true]
  rintro ⟨p, hp, hf⟩
  obtain ⟨i, hi, e⟩ := List.mem_iff_getElem.1 hp
  rw [h i p hi (by rw [List.getElem?_eq_getElem hi, e])] at hf; cases hf
def idxI {α : Type} (g : α → Bool) (l : List α) : Int := if l.any g then (l.findIdx g : Int) else -1
theorem idxI_some {α : Type} {g : α → Bool} {l : List α} {i : Nat} {p : α} (hp : l[i]? = some p) (h : g p = true) (hb : ∀ (j : Nat) (q : α), j < i → l[j]? = some q → g q = false) : idxI g l = (i : Int) := by
  have hi : i < l.length := (List.getElem?_eq_some_iff.1 hp).1
  have e : l[i] = p := (List.getElem?_eq_some_iff.1 hp).2
  rw [idxI, if_pos (all_not_of hp h)]
  congr 1
  refine List.findIdx_eq hi |>.2 ⟨by rw [e]; exact h, fun j hj => ?_⟩
  exact hb j _ hj (List.getElem?_eq_getElem (by omega))
theorem idxI_none {α : Type} {g : α → Bool} {l : List α} (hb : ∀ (j : Nat) (q : α), j < l.length → l[j]? = some q → g q = false) : idxI g l = -1 := by
  rw [idxI, any_false_of hb]; rfl
theorem idxI_ge {α : Type} {g : α → Bool} {l : List α} : decide (idxI g l ≥ 0) = l.any g := by
  unfold idxI
  split
  · rename_i h; rw [h]; simp
  · rename_i h; simp at h; simp; exact h
theorem IndexFuncTy_pure (ps : List Ty) (g : Nat) (f : Ty → Bool) (hf : ∀ p ∈ ps, APure Tryd.prog g [.agg p.cells] (.v (.bool (f p)))) : APure Tryd.prog 59 [.sl 3 (ps.map Ty.cells), .clo g []] (.v (.int .i64 (idxI f ps))) := by
  refine APure.mkL (.cons (Ty.dataSl ps) (.cons (.clo (fun _ h => by cases h)) .nil)) (.v _) ?_
  refine ACalls_intro Tryd.func59 (by kernel_rfl) rfl (by rw [Tryd.ntmps59]; simp) (fun hm => ?_)
  simp only [Tryd.ntmps59, Tryd.results59, List.length_cons, List.length_nil, Nat.reduceAdd, Nat.reduceSub, List.replicate_succ, List.replicate_zero, List.cons_append, List.nil_append]
  have hm1 := hm.len (sz := 3) (xs := ps.map Ty.cells) (by simp)
  rw [List.length_map] at hm1
  have hm2 : ∀ i : Nat, i < ps.length → IntKind.i64.wrap ((i : Int) + 1) = (i : Int) + 1 := fun i hi => wrap_in (by omega) (by simp only [maxLen] at hm1; omega)
  refine AWp_seqK fun Y0 y0 => ?_
  refine AWp_region ?_
  simp only [↓bO, go_sem, seval]
  refine y0 _ ?_
  try clear y0 Y0
  refine AWp_seqK fun Y0 y0 => ?_
  refine AWp_seqK fun Y1 y1 => ?_
  refine AWp_region ?_
  simp only [↓bO, go_sem, seval]
  refine y1 _ ?_
  try clear y1 Y1
  refine AWp_block ?_
  refine AWp_loopM (σ := Nat) (mB 19 387) (fun s => s ≤ ps.length ∧ ∀ (i : Nat) (p : Ty), i < s → ps[i]? = some p → f p = false) (fun s => [(8, .v (.int .i64 (s : Int)))]) (fun s => []) (fun s => ps.length - s) 0 (⟨by omega, fun i p hi => by omega⟩) ?_ (fun s hs => ?_)
  ·
   simp only [maskL, setsL, putsO, putO, mB, List.set_cons_zero, List.set_cons_succ, seval]
   exact Weak.mk (by simp only [go_sem, Le.refl, Le.any, Le.slNil, Int.natCast_add, Int.cast_ofNat_Int, Int.natCast_one]) (fun _ _ h => h) rfl rfl
  simp only [maskL, setsL, putsO, putO, mB, List.set_cons_zero, List.set_cons_succ, seval]
  refine AWp_seqK fun Y1 y1 => ?_
  refine AWp_region ?_
  simp only [↓bO, go_sem, seval]
  refine y1 _ ?_
  try clear y1 Y1
  refine AWp_seqK fun Y1 y1 => ?_
  refine AWp_cond rfl (fun hb9 => ?_) (fun hb9 => ?_)
  ·
   have hk : s < ps.length := by simpa using hb9
   obtain ⟨p, hp⟩ : ∃ p, ps[s]? = some p := ⟨_, List.getElem?_eq_getElem hk⟩
   have hw := hm2 s hk
   refine AWp_skip ?_
   try simp only [thenQ, blockQ, noGotoQ]
   refine y1 _ ?_
   try clear y1 Y1
   refine AWp_seqK fun Y1 y1 => ?_
   refine AWp_block ?_
   refine AWp_seqK fun Y2 y2 => ?_
   refine AWp_region ?_
   simp only [↓bO, go_sem, seval, hk, gM hp, Int.natCast_add, hw]
   refine y2 _ ?_
   try clear y2 Y2
   refine AWp_seqK fun Y2 y2 => ?_
   refine AWp_region ?_
   refine aops_chunk 4 fun Q0 q0 => ?_
   simp only [↓bO, go_sem, seval, hk, gM hp, Int.natCast_add, hw]
   refine q0 _ ?_
   clear q0 Q0
   simp only [go_sem]
   refine aops_chunk 1 fun Q0 q0 => ?_
   simp only [↓bO, go_sem, seval, hk, gM hp, Int.natCast_add, hw]
   refine q0 _ ?_
   clear q0 Q0
   simp only [go_sem]
   simp only [↓bO, go_sem, seval, hk, gM hp, Int.natCast_add, hw]
   refine APure.call (hf p (List.mem_of_getElem? hp)) ?_
   try simp only [bS, bA, thenQ, blockQ, noGotoQ]
   refine y2 _ ?_
   try clear y2 Y2
   refine AWp_cond rfl (fun hb16 => ?_) (fun hb16 => ?_)
   ·
    refine AWp_seqK fun Y2 y2 => ?_
    refine AWp_region ?_
    simp only [↓bO, go_sem, seval, hk, gM hp, Int.natCast_add, hw]
    refine y2 _ ?_
    try clear y2 Y2
    refine AWp_ret ?_
    try simp only [thenQ, blockQ, noGotoQ, retQ, aRes, tupOf, bS, bA]
    refine Le.of_eq (congrArg (fun n => AV.v (.int .i64 n)) ?_)
    first | (rw [idxI_some hp (by exact hb16) hs.2]; done) | (rw [idxI_none (fun i p hi h1 => hs.2 i p (by omega) h1)]; done)
   ·
    refine AWp_skip ?_
    try simp only [thenQ, blockQ, noGotoQ]
    refine y1 _ ?_
    try clear y1 Y1
    refine AWp_region ?_
    simp only [↓bO, go_sem, seval, hk, gM hp, Int.natCast_add, hw]
    refine ⟨(s + 1), ⟨by omega, fun i p' hi h1 => (by rcases Nat.lt_or_ge i s with h3 | h3 <;> first | exact hs.2 i p' h3 h1 | (obtain rfl : i = s := (by omega); rw [hp] at h1; cases h1; exact hb16))⟩, by omega, ?_⟩
    simp only [maskL, setsL, putsO, putO, mB, List.set_cons_zero, List.set_cons_succ, seval, hk, gM hp, Int.natCast_add, Int.natCast_one, hw]
    exact Weak.mk (by simp only [go_sem, Le.refl, Le.any, Le.slNil, Int.natCast_add, Int.cast_ofNat_Int, Int.natCast_one]) (fun _ _ h => h) rfl rfl
  ·
   have hk : s = ps.length := by have := hs.1; simp at hb9; omega
   refine AWp_exit ?_
   simp only [thenQ, blockQ, noGotoQ, bA, Nat.reduceEqDiff, ↓reduceIte]
   refine y0 _ ?_
   try clear y0 Y0
   refine AWp_seqK fun Y0 y0 => ?_
   refine AWp_region ?_
   simp only [↓bO, go_sem, seval]
   refine y0 _ ?_
   try clear y0 Y0
   refine AWp_ret ?_
   try simp only [thenQ, blockQ, noGotoQ, retQ, aRes, tupOf, bS, bA]
   refine Le.of_eq (congrArg (fun n => AV.v (.int .i64 n)) ?_)
   first | (rw [idxI_some hp (by exact hb16) hs.2]; done) | (rw [idxI_none (fun i p hi h1 => hs.2 i p (by omega) h1)]; done)
theorem ContainsFuncTy_pure (ps : List Ty) (g : Nat) (f : Ty → Bool) (hf : ∀ p ∈ ps, APure Tryd.prog g [.agg p.cells] (.v (.bool (f p)))) : APure Tryd.prog 34 [.sl 3 (ps.map Ty.cells), .clo g []] (.v (.bool (ps.any f))) := by
  refine APure.mkL (.cons (Ty.dataSl ps) (.cons (.clo (fun _ h => by cases h)) .nil)) (.v _) ?_
  refine ACalls_intro Tryd.func34 (by kernel_rfl) rfl (by rw [Tryd.ntmps34]; simp) (fun hm => ?_)
  simp only [Tryd.ntmps34, Tryd.results34, List.length_cons, List.length_nil, Nat.reduceAdd, Nat.reduceSub, List.replicate_succ, List.replicate_zero, List.cons_append, List.nil_append]
  refine AWp_seqK fun Y0 y0 => ?_
  refine AWp_region ?_
  simp only [↓bO, go_sem, seval, idxI_ge]
  refine y0 _ ?_
  try clear y0 Y0
  refine AWp_seqK fun Y0 y0 => ?_
  refine AWp_region ?_
  refine aops_chunk 2 fun Q0 q0 => ?_
  simp only [↓bO, go_sem, seval, idxI_ge]
  refine q0 _ ?_
  clear q0 Q0
  simp only [go_sem]
  refine aops_chunk 1 fun Q0 q0 => ?_
  simp only [↓bO, go_sem, seval, idxI_ge]
  refine APure.call (IndexFuncTy_pure ps g f hf) ?_
  try simp only [bS, bA, thenQ, blockQ, noGotoQ]
  refine q0 _ ?_
  clear q0 Q0
  simp only [go_sem]
  simp only [↓bO, go_sem, seval, idxI_ge]
  refine y0 _ ?_
  try clear y0 Y0
  refine AWp_ret ?_
  try simp only [thenQ, blockQ, noGotoQ, retQ, aRes, tupOf, bS, bA]
  exact Le.refl _
theorem Right1_pure {p : Ty} (h : APure Tryd.prog 20 [.agg p.cells] (.v (.bool p.right))) : APure Tryd.prog 35 [.agg p.cells] (.v (.bool (!p.right))) := by
  refine APure.mkL (.cons p.dataAgg .nil) (.v _) ?_
  refine ACalls_intro Tryd.func35 (by kernel_rfl) rfl (by rw [Tryd.ntmps35]; simp) (fun hm => ?_)
  simp only [Tryd.ntmps35, Tryd.results35, List.length_cons, List.length_nil, Nat.reduceAdd, Nat.reduceSub, List.replicate_succ, List.replicate_zero, List.cons_append, List.nil_append]
  refine AWp_seqK fun Y0 y0 => ?_
  refine AWp_region ?_
  simp only [↓bO, go_sem, seval]
  refine y0 _ ?_
  try clear y0 Y0
  refine AWp_seqK fun Y0 y0 => ?_
  refine AWp_region ?_
  refine aops_chunk 1 fun Q0 q0 => ?_
  simp only [↓bO, go_sem, seval]
  refine q0 _ ?_
  clear q0 Q0
  simp only [go_sem]
  refine aops_chunk 1 fun Q0 q0 => ?_
  simp only [↓bO, go_sem, seval]
  refine APure.call (h) ?_
  try simp only [bS, bA, thenQ, blockQ, noGotoQ]
  refine q0 _ ?_
  clear q0 Q0
  simp only [go_sem]
  simp only [↓bO, go_sem, seval]
  refine y0 _ ?_
  try clear y0 Y0
  refine AWp_ret ?_
  try simp only [thenQ, blockQ, noGotoQ, retQ, aRes, tupOf, bS, bA]
  exact Le.refl _
theorem Right_pure : ∀ (T : Ty), APure Tryd.prog 20 [.agg T.cells] (.v (.bool T.right)) := by
  refine Ty.ind fun T ih => ?_
  refine APure.mkL (.cons T.dataAgg .nil) (.v _) ?_
  refine ACalls_intro Tryd.func20 (by kernel_rfl) rfl (by rw [Tryd.ntmps20]; simp) (fun hm => ?_)
  simp only [Tryd.ntmps20, Tryd.results20, List.length_cons, List.length_nil, Nat.reduceAdd, Nat.reduceSub, List.replicate_succ, List.replicate_zero, List.cons_append, List.nil_append]
  refine AWp_seqK fun Y0 y0 => ?_
  refine AWp_region ?_
  simp only [↓bO, go_sem, seval]
  refine y0 _ ?_
  try clear y0 Y0
  refine AWp_seqK fun Y0 y0 => ?_
  refine AWp_region ?_
  refine aops_chunk 1 fun Q0 q0 => ?_
  simp only [↓bO, go_sem, seval]
  refine q0 _ ?_
  clear q0 Q0
  simp only [go_sem]
  refine aops_chunk 1 fun Q0 q0 => ?_
  simp only [↓bO, go_sem, seval]
  refine APure.call (plain_pure T) ?_
  try simp only [bS, bA, thenQ, blockQ, noGotoQ]
  refine q0 _ ?_
  clear q0 Q0
  simp only [go_sem]
  refine aops_chunk 1 fun Q0 q0 => ?_
  simp only [↓bO, go_sem, seval]
  refine q0 _ ?_
  clear q0 Q0
  simp only [go_sem]
  refine aops_case 5 rfl (fun hc5 => ?_) (fun hc5 => ?_)
  ·
   simp only [List.set_cons_zero, List.set_cons_succ]
   refine aops_chunk 2 fun Q0 q0 => ?_
   simp only [↓bO, go_sem, seval]
   refine q0 _ ?_
   clear q0 Q0
   simp only [go_sem]
   refine aops_chunk 1 fun Q0 q0 => ?_
   simp only [↓bO, go_sem, seval]
   refine APure.call (ContainsFuncTy_pure T.ps 35 (fun p => !p.right) (fun p hp => Right1_pure (ih p hp))) ?_
   try simp only [bS, bA, thenQ, blockQ, noGotoQ]
   refine q0 _ ?_
   clear q0 Q0
   simp only [go_sem]
   simp only [↓bO, go_sem, seval]
   refine y0 _ ?_
   try clear y0 Y0
   refine AWp_ret ?_
   try simp only [thenQ, blockQ, noGotoQ, retQ, aRes, tupOf, bS, bA]
   refine Le.of_eq (congrArg (fun b => AV.v (.bool b)) ?_)
   rw [Ty.right_eq]
   first | (simp only [hc5]; rfl) | (simp only [hc5, Bool.true_and]; simp [List.not_any_eq_all_not])
  ·
   simp only [List.set_cons_zero, List.set_cons_succ]
   refine aops_chunk 4 fun Q0 q0 => ?_
   simp only [↓bO, go_sem, seval]
   refine q0 _ ?_
   clear q0 Q0
   simp only [go_sem]
   simp only [↓bO, go_sem, seval]
   refine y0 _ ?_
   try clear y0 Y0
   refine AWp_ret ?_
   try simp only [thenQ, blockQ, noGotoQ, retQ, aRes, tupOf, bS, bA]
   refine Le.of_eq (congrArg (fun b => AV.v (.bool b)) ?_)
   rw [Ty.right_eq]
   first | (simp only [hc5]; rfl) | (simp only [hc5, Bool.true_and]; simp [List.not_any_eq_all_not])
def joinB (l : List ByteArray) (sep : ByteArray) : ByteArray := ⟨(Lib.join (l.map (·.data.toList)) sep.data.toList).toArray⟩
theorem Join_pure (l : List ByteArray) (sep : ByteArray) (hn : l.length ≤ 140737488355328) (hl : (joinB l sep).size ≤ 140737488355328) : APure Tryd.prog 38 [.sl 1 (l.map strC), .v (.string sep)] (.v (.string (joinB l sep))) := by
  have hl' : (Lib.join (l.map (·.data.toList)) sep.data.toList).length ≤ 140737488355328 := by have h9 : (joinB l sep).size = (Lib.join (l.map (·.data.toList)) sep.data.toList).length := rfl; omega
  refine APure.ofCalls ⟨_, Tryd.func38, by kernel_rfl, by kernel_rfl⟩ (.cons (dataStrs l) (.cons (.v _) .nil)) (.v _) fun E A w vs hgl hA hr => ?_
  obtain ⟨u, v, rfl, h1, h2⟩ := hr.two
  obtain rfl := h2.str
  rcases h1.strs with ⟨rfl, a, cap, rfl⟩ | ⟨b, o, cap, rfl, hle, hcap, hc⟩
  · refine (Tryd.strings_Join_none a cap sep w).mono ?_
    rintro e w' ⟨rfl, rfl⟩
    exact ⟨_, rfl, Below.refl _ _, .v _⟩
  · cases l with
    | nil =>
      refine (Tryd.strings_Join_none (some ⟨b, o, none⟩) cap sep w).mono ?_
      rintro e w' ⟨rfl, rfl⟩
      exact ⟨_, rfl, Below.refl _ _, .v _⟩
    | cons x l =>
      have h0 := hc 0 x rfl
      refine (Tryd.strings_Join b o cap (x :: l) sep w hc (World.block_lt_of_cell? w _ h0) hn hle hl').mono ?_
      rintro e w' ⟨rfl, hb⟩
      exact ⟨_, rfl, hb, .v _⟩
theorem IndexByte_pure (s : ByteArray) (c : Int) : APure Tryd.prog 49 [.v (.string s), .v (.int .u8 c)] (.v (.int .i64 (Lib.indexByte s.data.toList c.toNat.toUInt8))) := by
  refine APure.ofCalls ⟨_, Tryd.func49, by kernel_rfl, by kernel_rfl⟩ (.cons (.v _) (.cons (.v _) .nil)) (.v _) fun E A w vs hgl hA hr => ?_
  obtain ⟨u, v, rfl, h1, h2⟩ := hr.two
  cases h1; cases h2
  refine (Tryd.strings_IndexByte s c w).mono ?_
  rintro e w' ⟨rfl, rfl⟩
  exact ⟨_, rfl, Below.refl _ _, .v _⟩
theorem HasPrefix_pure (s p : ByteArray) : APure Tryd.prog 50 [.v (.string s), .v (.string p)] (.v (.bool (Lib.hasPrefix s.data.toList p.data.toList))) := by
  refine APure.ofCalls ⟨_, Tryd.func50, by kernel_rfl, by kernel_rfl⟩ (.cons (.v _) (.cons (.v _) .nil)) (.v _) fun E A w vs hgl hA hr => ?_
  obtain ⟨u, v, rfl, h1, h2⟩ := hr.two
  cases h1; cases h2
  refine (Tryd.strings_HasPrefix s p w).mono ?_
  rintro e w' ⟨rfl, rfl⟩
  exact ⟨_, rfl, Below.refl _ _, .v _⟩
def kwT : ByteArray := ⟨#[32, 102, 117, 110, 32, 108, 101, 116, 32, 114, 101, 99, 32, 105, 110, 32, 105, 102, 32, 116, 104, 101, 110, 32, 101, 108, 115, 101, 32, 116, 114, 117, 101, 32, 102, 97, 108, 115, 101, 32, 105, 110, 116, 32, 98, 111, 111, 108, 32]⟩
def kwL : List ByteArray := (Lib.fields kwT.data.toList).map fun l => ⟨l.toArray⟩
theorem kw_ascii : ∀ (j : Nat) b, kwT.data.toList[j]? = some b → b.toNat < 128 := fun j b hj => by
  have h : (kwT.data.toList.all fun b => decide (b.toNat < 128)) = true := by kernel_rfl
  exact of_decide_eq_true (List.all_eq_true.1 h b (List.mem_of_getElem? hj))
theorem Fields_pure : APure Tryd.prog 68 [.v (.string kwT)] (.sl 1 (kwL.map strC)) := by
  refine APure.ofCalls ⟨_, Tryd.func68, by kernel_rfl, by kernel_rfl⟩ (.cons (.v _) .nil) (dataStrs _) fun E A w vs hgl hA hr => ?_
  obtain ⟨u, rfl, h1⟩ := hr.one
  obtain rfl := h1.str
  refine (Tryd.strings_Fields_laid kwT w (by decide) kw_ascii (hgl.tab gl_mem0 (by kernel_rfl) (by kernel_rfl))).mono ?_
  rintro e w' ⟨rfl, rfl⟩
  refine ⟨_, rfl, below_alloc w _, ?_⟩
  exact strs_new kwL hA 9 (of_decide_eq_true (by kernel_rfl))
def eqS (a b : ByteArray) : Bool := a.toList == b.toList
theorem eqS_iff {a b : ByteArray} : eqS a b = true ↔ a = b := by
  unfold eqS
  rw [beq_iff_eq, ByteArray.toList_eq, ByteArray.toList_eq]
  exact ⟨fun h => WideShapes.bytes_inj h, fun h => by rw [h]⟩
theorem eqS_dec (a b : ByteArray) : eqS a b = decide (a = b) := by
  rw [Bool.eq_iff_iff, eqS_iff, decide_eq_true_eq]
def kwB (s : ByteArray) : Bool := kwL.any fun x => eqS s x
def smI (c : Int) : Bool := decide (97 ≤ c ∧ c ≤ 122)
def dgI (c : Int) : Bool := decide (48 ≤ c ∧ c ≤ 57)
def inI (c : Int) : Bool := smI c || dgI c || c == 95
def blI (c : Int) : Bool := c == 32 || c == 9 || c == 10 || c == 13
def runN (s : ByteArray) (a : Nat) (p : Int → Bool) : Nat := ((s.data.toList.drop a).takeWhile fun b => p b.toNat).length
theorem byte_at {s : ByteArray} {i : Nat} (h : i < s.size) : s.data.toList[i]? = some ((s[i]?).getD 0) := by
  have h1 : s[i]? = some s[i] := getElem?_pos s i h
  rw [h1]
  have h2 : i < s.data.toList.length := by rw [Array.length_toList]; exact h
  rw [List.getElem?_eq_getElem h2]
  rfl
theorem runN_le (s : ByteArray) (a : Nat) (p : Int → Bool) (ha : a ≤ s.size) : a + runN s a p ≤ s.size := by
  have h1 := List.IsPrefix.length_le (List.takeWhile_prefix (l := s.data.toList.drop a) (fun b => p b.toNat))
  have h2 : s.data.toList.length = s.size := Array.length_toList
  rw [List.length_drop, h2] at h1
  unfold runN; omega
theorem takeWhile_len {α : Type} (q : α → Bool) : ∀ (l : List α) (n : Nat), n ≤ l.length → (∀ (i : Nat) (x : α), i < n → l[i]? = some x → q x = true) → (∀ x, l[n]? = some x → q x = false) → (l.takeWhile q).length = n
  | [], n, h, _, _ => by simp at h; simp [h]
  | x :: l, 0, _, _, h2 => by simp [h2 x rfl]
  | x :: l, n + 1, h, h1, h2 => by
    rw [List.takeWhile_cons, if_pos (h1 0 x (by omega) rfl), List.length_cons, takeWhile_len q l n (by simpa using h) (fun i y hi hy => h1 (i + 1) y (by omega) (by simpa using hy)) (fun y hy => h2 y (by simpa using hy))]
theorem runN_eq {s : ByteArray} {a n : Nat} {p : Int → Bool} (h0 : a + n ≤ s.size) (h1 : ∀ i, i < n → p ((s[a + i]?).getD 0).toNat = true) (h2 : a + n < s.size → p ((s[a + n]?).getD 0).toNat = false) : runN s a p = n := by
  have hsz : s.data.toList.length = s.size := Array.length_toList
  unfold runN
  refine takeWhile_len _ _ _ (by rw [List.length_drop, hsz]; omega) (fun i x hi hx => ?_) fun x hx => ?_
  · rw [List.getElem?_drop, byte_at (by omega)] at hx
    cases hx; exact h1 i hi
  · rw [List.getElem?_drop] at hx
    have hlt : a + n < s.size := by have := (List.getElem?_eq_some_iff.1 hx).1; omega
    rw [byte_at hlt] at hx
    cases hx; exact h2 hlt
theorem run_pure (s : ByteArray) (a g : Nat) (p : Int → Bool) (hg : ∀ c : Int, APure Tryd.prog g [.v (.int .u8 c)] (.v (.bool (p c)))) (ha : a ≤ s.size) (hs : s.size ≤ 1099511627776) : APure Tryd.prog 42 [.v (.string s), .v (.int .i64 a), .clo g []] (.v (.int .i64 (runN s a p))) := by
  refine APure.mkL (.cons (.v _) (.cons (.v _) (.cons .clo0 .nil))) (.v _) ?_
  refine ACalls_intro Tryd.func42 (by kernel_rfl) rfl (by rw [Tryd.ntmps42]; simp) (fun hm => ?_)
  simp only [Tryd.ntmps42, Tryd.results42, List.length_cons, List.length_nil, Nat.reduceAdd, Nat.reduceSub, List.replicate_succ, List.replicate_zero, List.cons_append, List.nil_append]
  iterate 2 (refine AWp_seqK fun Y0 y0 => ?_; refine AWp_region ?_; simp only [↓bO, go_sem, seval]; refine y0 _ ?_; (try clear y0 Y0))
  refine AWp_seqK fun Y0 y0 => ?_
  refine AWp_block ?_
  refine AWp_loopM (σ := Nat) (mB 26 135) (fun n => a + n ≤ s.size ∧ ∀ i, i < n → p ((s[a + i]?).getD 0).toNat = true) (fun n => [(7, .v (.int .i64 (n : Int)))]) (fun n => []) (fun n => s.size - (a + n)) 0 (⟨by omega, fun i hi => by omega⟩) ?_ (fun n hn => ?_)
  ·
   try simp only [maskL, setsL, putsO, putO, mB, List.set_cons_zero, List.set_cons_succ, seval]
   exact Weak.mk (by simp only [go_sem, Le.refl, Le.any, Le.slNil, Int.natCast_add, Int.cast_ofNat_Int, Int.natCast_one]) (fun _ _ h => h) rfl rfl
  simp only [maskL, setsL, putsO, putO, mB, List.set_cons_zero, List.set_cons_succ, seval]
  have hw1 : IntKind.i64.wrap ((a : Int) + (n : Int)) = ((a + n : Nat) : Int) := by rw [wrap_in (by omega) (by omega)]; omega
  have hw2 : IntKind.i64.wrap ((n : Int) + 1) = ((n + 1 : Nat) : Int) := by rw [wrap_in (by omega) (by omega)]; omega
  refine AWp_seqK fun Y1 y1 => ?_
  refine AWp_seqK fun Y2 y2 => ?_
  refine AWp_region ?_
  iterate 7 (refine aops_chunk 1 fun Q0 q0 => ?_; simp only [↓bO, go_sem, seval, hw1, hw2]; refine q0 _ ?_; clear q0 Q0; simp only [go_sem])
  refine aops_case 14 rfl (fun hc14 => ?_) (fun hc14 => ?_)
  ·
   simp only [List.set_cons_zero, List.set_cons_succ]
   have hlt : a + n < s.size := by simpa using hc14
   iterate 6 (refine aops_chunk 1 fun Q0 q0 => ?_; simp only [↓bO, go_sem, seval, hw1, hw2, hlt]; refine q0 _ ?_; clear q0 Q0; simp only [go_sem])
   refine aops_chunk 1 fun Q0 q0 => ?_
   simp only [↓bO, go_sem, seval, hw1, hw2, hlt]
   refine APure.call (hg _) ?_
   try simp only [bS, bA, thenQ, blockQ, noGotoQ]
   refine q0 _ ?_
   clear q0 Q0
   simp only [go_sem]
   simp only [↓bO, go_sem, seval, hw1, hw2, hlt]
   refine y2 _ ?_
   try clear y2 Y2
   refine AWp_cond rfl (fun hb22 => ?_) (fun hb22 => ?_)
   ·
    refine AWp_skip ?_
    try simp only [thenQ, blockQ, noGotoQ]
    refine y1 _ ?_
    try clear y1 Y1
    refine AWp_block ?_
    refine AWp_region ?_
    iterate 2 (refine aops_chunk 1 fun Q0 q0 => ?_; simp only [↓bO, go_sem, seval, hw1, hw2, hlt]; refine q0 _ ?_; clear q0 Q0; simp only [go_sem])
    simp only [↓bO, go_sem, seval, hw1, hw2, hlt]
    refine ⟨(n + 1), ⟨by omega, fun i hi => (by rcases Nat.lt_or_ge i n with h3 | h3 <;> first | exact hn.2 i h3 | (obtain rfl : i = n := (by omega); exact hb22))⟩, by omega, ?_⟩
    try simp only [maskL, setsL, putsO, putO, mB, List.set_cons_zero, List.set_cons_succ, seval, hw1, hw2, hlt]
    exact Weak.mk (by simp only [go_sem, Le.refl, Le.any, Le.slNil, Int.natCast_add, Int.cast_ofNat_Int, Int.natCast_one]) (fun _ _ h => h) rfl rfl
   ·
    refine AWp_exit ?_
    simp only [thenQ, blockQ, noGotoQ, bA, Nat.reduceEqDiff, ↓reduceIte]
    refine y0 _ ?_
    try clear y0 Y0
    refine AWp_seqK fun Y0 y0 => ?_
    refine AWp_region ?_
    refine aops_chunk 1 fun Q0 q0 => ?_
    simp only [↓bO, go_sem, seval, hlt]
    refine q0 _ ?_
    clear q0 Q0
    simp only [go_sem]
    simp only [↓bO, go_sem, seval, hlt]
    refine y0 _ ?_
    try clear y0 Y0
    refine AWp_ret ?_
    try simp only [thenQ, blockQ, noGotoQ, retQ, aRes, tupOf, bS, bA]
    refine Le.of_eq (congrArg (fun n : Nat => AV.v (.int .i64 n)) ?_)
    exact (runN_eq hn.1 hn.2 fun _ => hb22).symm
  ·
   simp only [List.set_cons_zero, List.set_cons_succ]
   have hge : ¬ a + n < s.size := by simpa using hc14
   iterate 7 (refine aops_chunk 1 fun Q0 q0 => ?_; simp only [↓bO, go_sem, seval]; refine q0 _ ?_; clear q0 Q0; simp only [go_sem])
   simp only [↓bO, go_sem, seval]
   refine y2 _ ?_
   try clear y2 Y2
   refine AWp_cond (b := false) (by first | exact rfl | exact congrArg (fun b => AV.v (.bool b)) hb22) (fun h => (by cases h)) (fun _ => ?_)
   refine AWp_exit ?_
   simp only [thenQ, blockQ, noGotoQ, bA, Nat.reduceEqDiff, ↓reduceIte]
   refine y0 _ ?_
   try clear y0 Y0
   refine AWp_seqK fun Y0 y0 => ?_
   refine AWp_region ?_
   refine aops_chunk 1 fun Q0 q0 => ?_
   simp only [↓bO, go_sem, seval]
   refine q0 _ ?_
   clear q0 Q0
   simp only [go_sem]
   simp only [↓bO, go_sem, seval]
   refine y0 _ ?_
   try clear y0 Y0
   refine AWp_ret ?_
   try simp only [thenQ, blockQ, noGotoQ, retQ, aRes, tupOf, bS, bA]
   refine Le.of_eq (congrArg (fun n : Nat => AV.v (.int .i64 n)) ?_)
   exact (runN_eq hn.1 hn.2 fun h => absurd h hge).symm
theorem IdxS_pure (l : List ByteArray) (v : ByteArray) (hl : l.length ≤ 1099511627776) : APure Tryd.prog 83 [.sl 1 (l.map strC), .v (.string v)] (.v (.int .i64 (idxI (fun x => eqS v x) l))) := by
  refine APure.mkL (.cons (dataStrs _) (.cons (.v _) .nil)) (.v _) ?_
  refine ACalls_intro Tryd.func83 (by kernel_rfl) rfl (by rw [Tryd.ntmps83]; simp) (fun hm => ?_)
  simp only [Tryd.ntmps83, Tryd.results83, List.length_cons, List.length_nil, Nat.reduceAdd, Nat.reduceSub, List.replicate_succ, List.replicate_zero, List.cons_append, List.nil_append]
  refine AWp_seqK fun Y0 y0 => ?_
  refine AWp_region ?_
  simp only [↓bO, go_sem, seval]
  refine y0 _ ?_
  try clear y0 Y0
  refine AWp_seqK fun Y0 y0 => ?_
  refine AWp_seqK fun Y1 y1 => ?_
  refine AWp_region ?_
  iterate 2 (refine aops_chunk 1 fun Q0 q0 => ?_; simp only [↓bO, go_sem, seval]; refine q0 _ ?_; clear q0 Q0; simp only [go_sem])
  simp only [↓bO, go_sem, seval]
  refine y1 _ ?_
  try clear y1 Y1
  refine AWp_block ?_
  refine AWp_loopM (σ := Nat) (mB 19 387) (fun s => s ≤ l.length ∧ ∀ (i : Nat) (p : ByteArray), i < s → l[i]? = some p → eqS v p = false) (fun s => [(8, .v (.int .i64 (s : Int)))]) (fun s => []) (fun s => l.length - s) 0 (⟨by omega, fun i p hi => by omega⟩) ?_ (fun s hs => ?_)
  ·
   simp only [maskL, setsL, putsO, putO, mB, List.set_cons_zero, List.set_cons_succ, seval]
   exact Weak.mk (by simp only [go_sem, Le.refl, Le.any, Le.slNil, Int.natCast_add, Int.cast_ofNat_Int, Int.natCast_one]) (fun _ _ h => h) rfl rfl
  simp only [maskL, setsL, putsO, putO, mB, List.set_cons_zero, List.set_cons_succ, seval]
  refine AWp_seqK fun Y1 y1 => ?_
  refine AWp_region ?_
  simp only [↓bO, go_sem, seval]
  refine y1 _ ?_
  try clear y1 Y1
  refine AWp_seqK fun Y1 y1 => ?_
  refine AWp_cond rfl (fun hb9 => ?_) (fun hb9 => ?_)
  ·
   have hk : s < l.length := by simpa using hb9
   obtain ⟨p, hp⟩ : ∃ p, l[s]? = some p := ⟨_, List.getElem?_eq_getElem hk⟩
   have hw : IntKind.i64.wrap ((s : Int) + 1) = (s : Int) + 1 := wrap_in (by omega) (by omega)
   refine AWp_skip ?_
   try simp only [thenQ, blockQ, noGotoQ]
   refine y1 _ ?_
   try clear y1 Y1
   refine AWp_seqK fun Y1 y1 => ?_
   refine AWp_block ?_
   refine AWp_seqK fun Y2 y2 => ?_
   refine AWp_region ?_
   refine aops_chunk 1 fun Q0 q0 => ?_
   simp only [↓bO, go_sem, seval, hk, gM hp, Int.natCast_add, hw, strC]
   refine q0 _ ?_
   clear q0 Q0
   simp only [go_sem]
   simp only [↓bO, go_sem, seval, hk, gM hp, Int.natCast_add, hw, strC]
   refine y2 _ ?_
   try clear y2 Y2
   refine AWp_seqK fun Y2 y2 => ?_
   refine AWp_region ?_
   iterate 5 (refine aops_chunk 1 fun Q0 q0 => ?_; simp only [↓bO, go_sem, seval, hk, gM hp, Int.natCast_add, hw, strC]; refine q0 _ ?_; clear q0 Q0; simp only [go_sem])
   simp only [↓bO, go_sem, seval, hk, gM hp, Int.natCast_add, hw, strC]
   refine y2 _ ?_
   try clear y2 Y2
   refine AWp_cond rfl (fun hb16 => ?_) (fun hb16 => ?_)
   ·
    refine AWp_seqK fun Y2 y2 => ?_
    refine AWp_region ?_
    refine aops_chunk 1 fun Q0 q0 => ?_
    simp only [↓bO, go_sem, seval, hk, gM hp, Int.natCast_add, hw, strC]
    refine q0 _ ?_
    clear q0 Q0
    simp only [go_sem]
    simp only [↓bO, go_sem, seval, hk, gM hp, Int.natCast_add, hw, strC]
    refine y2 _ ?_
    try clear y2 Y2
    refine AWp_ret ?_
    try simp only [thenQ, blockQ, noGotoQ, retQ, aRes, tupOf, bS, bA]
    refine Le.of_eq (congrArg (fun n => AV.v (.int .i64 n)) ?_)
    first | (rw [idxI_some hp (by exact hb16) hs.2]; done) | (rw [idxI_none (fun i p hi h1 => hs.2 i p (by omega) h1)]; done)
   ·
    refine AWp_skip ?_
    try simp only [thenQ, blockQ, noGotoQ]
    refine y1 _ ?_
    try clear y1 Y1
    refine AWp_region ?_
    refine aops_chunk 1 fun Q0 q0 => ?_
    simp only [↓bO, go_sem, seval, hk, gM hp, Int.natCast_add, hw, strC]
    refine q0 _ ?_
    clear q0 Q0
    simp only [go_sem]
    simp only [↓bO, go_sem, seval, hk, gM hp, Int.natCast_add, hw, strC]
    refine ⟨(s + 1), ⟨by omega, fun i p' hi h1 => (by rcases Nat.lt_or_ge i s with h3 | h3 <;> first | exact hs.2 i p' h3 h1 | (obtain rfl : i = s := (by omega); rw [hp] at h1; cases h1; exact hb16))⟩, by omega, ?_⟩
    simp only [maskL, setsL, putsO, putO, mB, List.set_cons_zero, List.set_cons_succ, seval, hk, gM hp, Int.natCast_add, Int.natCast_one, hw, strC]
    exact Weak.mk (by simp only [go_sem, Le.refl, Le.any, Le.slNil, Int.natCast_add, Int.cast_ofNat_Int, Int.natCast_one]) (fun _ _ h => h) rfl rfl
  ·
   have hk : s = l.length := by have := hs.1; simp at hb9; omega
   refine AWp_exit ?_
   simp only [thenQ, blockQ, noGotoQ, bA, Nat.reduceEqDiff, ↓reduceIte]
   refine y0 _ ?_
   try clear y0 Y0
   refine AWp_seqK fun Y0 y0 => ?_
   refine AWp_region ?_
   simp only [↓bO, go_sem, seval]
   refine y0 _ ?_
   try clear y0 Y0
   refine AWp_ret ?_
   try simp only [thenQ, blockQ, noGotoQ, retQ, aRes, tupOf, bS, bA]
   refine Le.of_eq (congrArg (fun n => AV.v (.int .i64 n)) ?_)
   first | (rw [idxI_some hp (by exact hb16) hs.2]; done) | (rw [idxI_none (fun i p hi h1 => hs.2 i p (by omega) h1)]; done)
theorem ContS_pure (l : List ByteArray) (v : ByteArray) (hl : l.length ≤ 1099511627776) : APure Tryd.prog 67 [.sl 1 (l.map strC), .v (.string v)] (.v (.bool (l.any fun x => eqS v x))) := by
  refine APure.mkL (.cons (dataStrs _) (.cons (.v _) .nil)) (.v _) ?_
  refine ACalls_intro Tryd.func67 (by kernel_rfl) rfl (by rw [Tryd.ntmps67]; simp) (fun hm => ?_)
  simp only [Tryd.ntmps67, Tryd.results67, List.length_cons, List.length_nil, Nat.reduceAdd, Nat.reduceSub, List.replicate_succ, List.replicate_zero, List.cons_append, List.nil_append]
  refine AWp_seqK fun Y0 y0 => ?_
  refine AWp_region ?_
  simp only [↓bO, go_sem, seval, idxI_ge]
  refine y0 _ ?_
  try clear y0 Y0
  refine AWp_seqK fun Y0 y0 => ?_
  refine AWp_region ?_
  iterate 2 (refine aops_chunk 1 fun Q0 q0 => ?_; simp only [↓bO, go_sem, seval, idxI_ge]; refine q0 _ ?_; clear q0 Q0; simp only [go_sem])
  refine aops_chunk 1 fun Q0 q0 => ?_
  simp only [↓bO, go_sem, seval, idxI_ge]
  refine APure.call (IdxS_pure l v hl) ?_
  try simp only [bS, bA, thenQ, blockQ, noGotoQ]
  refine q0 _ ?_
  clear q0 Q0
  simp only [go_sem]
  refine aops_chunk 1 fun Q0 q0 => ?_
  simp only [↓bO, go_sem, seval, idxI_ge]
  refine q0 _ ?_
  clear q0 Q0
  simp only [go_sem]
  simp only [↓bO, go_sem, seval, idxI_ge]
  refine y0 _ ?_
  try clear y0 Y0
  refine AWp_ret ?_
  try simp only [thenQ, blockQ, noGotoQ, retQ, aRes, tupOf, bS, bA]
  exact Le.refl _
theorem Keyword_pure (s : ByteArray) : APure Tryd.prog 46 [.v (.string s)] (.v (.bool (kwB s))) := by
  refine APure.mkL (.cons (.v _) .nil) (.v _) ?_
  refine ACalls_intro Tryd.func46 (by kernel_rfl) rfl (by rw [Tryd.ntmps46]; simp) (fun hm => ?_)
  simp only [Tryd.ntmps46, Tryd.results46, List.length_cons, List.length_nil, Nat.reduceAdd, Nat.reduceSub, List.replicate_succ, List.replicate_zero, List.cons_append, List.nil_append]
  refine AWp_seqK fun Y0 y0 => ?_
  refine AWp_region ?_
  simp only [↓bO, go_sem, seval]
  refine y0 _ ?_
  try clear y0 Y0
  refine AWp_seqK fun Y0 y0 => ?_
  refine AWp_region ?_
  refine aops_chunk 1 fun Q0 q0 => ?_
  simp only [↓bO, go_sem, seval]
  refine APure.call (Fields_pure) ?_
  try simp only [bS, bA, thenQ, blockQ, noGotoQ]
  iterate 2 (refine q0 _ ?_; clear q0 Q0; simp only [go_sem]; refine aops_chunk 1 fun Q0 q0 => ?_; simp only [↓bO, go_sem, seval])
  refine APure.call (ContS_pure kwL s (of_decide_eq_true (by kernel_rfl))) ?_
  try simp only [bS, bA, thenQ, blockQ, noGotoQ]
  refine q0 _ ?_
  clear q0 Q0
  simp only [go_sem]
  simp only [↓bO, go_sem, seval]
  refine y0 _ ?_
  try clear y0 Y0
  refine AWp_ret ?_
  try simp only [thenQ, blockQ, noGotoQ, retQ, aRes, tupOf, bS, bA]
  exact Le.refl _
def sOra : Ora := fun f args =>
  if f = 46 then match args with
    | [.v (.string s)] => some (.v (.bool (kwB s)))
    | _ => none
  else if f = 49 then match args with
    | [.v (.string s), .v (.int .u8 c)] => some (.v (.int .i64 (Lib.indexByte s.data.toList c.toNat.toUInt8)))
    | _ => none
  else if f = 50 then match args with
    | [.v (.string s), .v (.string p)] => some (.v (.bool (Lib.hasPrefix s.data.toList p.data.toList)))
    | _ => none
  else if f = 38 then match args with
    | [.sl 1 xs, .v (.string sep)] => match strsOf xs with
      | some l => if l.length ≤ 1000 ∧ (joinB l sep).size ≤ 1000000 then some (.v (.string (joinB l sep))) else none
      | none => none
    | _ => none
  else none
theorem sOra_ok : sOra.Ok Tryd.prog := by
  intro f args x h
  unfold sOra at h
  split at h
  · rename_i e; subst e
    split at h
    · cases h; exact Keyword_pure _
    · cases h
  split at h
  · rename_i e; subst e
    split at h
    · cases h; exact IndexByte_pure _ _
    · cases h
  split at h
  · rename_i e; subst e
    split at h
    · cases h; exact HasPrefix_pure _ _
    · cases h
  split at h
  · rename_i e; subst e
    split at h
    · split at h
      · rename_i l hl
        split at h
        · rename_i hc
          cases h
          rw [strsOf_spec hl]
          exact Join_pure l _ (by omega) (by omega)
        · cases h
      · cases h
    · cases h
  · cases h
def aw4S : ByteArray := ⟨#[40, 105, 110, 116, 32, 42, 32, 98, 111, 111, 108, 41, 32, 45, 62, 32, 105, 110, 116]⟩
def aw4T : List Tok := [⟨4, ⟨#[40]⟩, 0, 1⟩, ⟨3, ⟨#[105, 110, 116]⟩, 1, 4⟩, ⟨4, ⟨#[42]⟩, 5, 6⟩, ⟨3, ⟨#[98, 111, 111, 108]⟩, 7, 11⟩, ⟨4, ⟨#[41]⟩, 11, 12⟩, ⟨4, ⟨#[45, 62]⟩, 13, 15⟩, ⟨3, ⟨#[105, 110, 116]⟩, 16, 19⟩, ⟨0, ByteArray.empty, 19, 19⟩]
def aw4Y : Ty := .mk 4 0 [.mk 5 0 [.mk 2 0 [], .mk 3 0 []], .mk 2 0 []]
theorem aw4_words : APure Tryd.prog 14 [.v (.string aw4S)] (.tup [.sl 4 (aw4T.map Tok.cells), .v (.int .i64 0), .v (.int .i64 0)]) := ePureO_sound mixed sOra_ok (pol := []) (fuel := 60) (n := 30) (by kernel_rfl)
theorem aw4_print : APure Tryd.prog 9 [.agg [.v (.int .i64 4), .v (.int .i64 0), .sl 3 [[.v (.int .i64 5), .v (.int .i64 0), .sl 3 [[.v (.int .i64 2), .v (.int .i64 0), .sl 3 []], [.v (.int .i64 3), .v (.int .i64 0), .sl 3 []]]], [.v (.int .i64 2), .v (.int .i64 0), .sl 3 []]]]] (.v (.string aw4S)) := ePureO_sound mixed sOra_ok (pol := []) (fuel := 60) (n := 30) (by kernel_rfl)
theorem aw4_cells : aw4Y.cells = [.v (.int .i64 4), .v (.int .i64 0), .sl 3 [[.v (.int .i64 5), .v (.int .i64 0), .sl 3 [[.v (.int .i64 2), .v (.int .i64 0), .sl 3 []], [.v (.int .i64 3), .v (.int .i64 0), .sl 3 []]]], [.v (.int .i64 2), .v (.int .i64 0), .sl 3 []]]] := by simp [aw4Y, Ty.cells_eq, Ty.k, Ty.n, Ty.ps]
theorem isT_no {l : List Tok} {i k : Int} {s : ByteArray} {t : Tok} (h0 : 0 ≤ i) (ht : l[i.toNat]? = some t) (h : ¬ t.k = k) : isT l i k s = false := by
  rw [isT_at h0 ht]; simp [h]
theorem isT_yes {l : List Tok} {i k : Int} {s : ByteArray} {t : Tok} (h0 : 0 ≤ i) (ht : l[i.toNat]? = some t) (h : t.k = k) : isT l i k s = eqS t.s s := by
  rw [isT_at h0 ht, eqS_dec]; simp [h]
end Go.Proofs.YtkokfdmggdhfmaaDoor
namespace Go.Proofs.YtkokfdmggdhfmaaDoor
open Go Go.RowKit
set_option linter.unusedSimpArgs false
set_option linter.unnecessarySimpa false
set_option linter.unusedVariables false
def rdP (l : List Tok) (most : Int) : Nat → Option (List Ty) → Int → Int → Ty × Int × Int
  | 0, _, i, _ => (zTy, i, 3)
  | f + 1, none, i, lv =>
    if most < lv then (zTy, i, 4) else
    let r := if isT l i 3 bInt then (.mk 2 0 [], i + 1, 0) else if isT l i 3 bBool then (.mk 3 0 [], i + 1, 0)
      else if isT l i 4 bOpen then
        let p := rdP l most f none (i + 1) (lv + 1)
        if p.2.2 = 0 then rdP l most f (some [p.1]) p.2.1 (lv + 1) else p
      else (zTy, i, 3)
    if r.2.2 = 0 then
      if isT l r.2.1 4 bArrow then
        let u := rdP l most f none (r.2.1 + 1) (lv + 1)
        (.mk 4 0 [r.1, u.1], u.2.1, u.2.2)
      else r
    else r
  | f + 1, some ps, i, lv =>
    if isT l i 4 bClose then (tupP ps, i + 1, 0)
    else if isT l i 4 bStar then
      if ps.length = 8 then (tupP ps, i, 6) else
      let p := rdP l most f none (i + 1) lv
      if p.2.2 = 0 then rdP l most f (some (ps ++ [p.1])) p.2.1 lv else (tupP (ps ++ [p.1]), p.2.1, p.2.2)
    else (tupP ps, i, 3)
def lsP (l : List Tok) (m : Int) (f : Nat) (i lv : Int) : Ty × Int × Int :=
  if (rdP l m f none i lv).2.2 = 0 then rdP l m f (some [(rdP l m f none i lv).1]) (rdP l m f none i lv).2.1 lv else rdP l m f none i lv
def bsP (l : List Tok) (m : Int) (f : Nat) (i lv : Int) : Ty × Int × Int :=
  if isT l i 3 bInt then (.mk 2 0 [], i + 1, 0) else if isT l i 3 bBool then (.mk 3 0 [], i + 1, 0)
  else if isT l i 4 bOpen then lsP l m f (i + 1) (lv + 1) else (zTy, i, 3)
def arP (l : List Tok) (m : Int) (f : Nat) (lv : Int) (r : Ty × Int × Int) : Ty × Int × Int :=
  if r.2.2 = 0 then
    if isT l r.2.1 4 bArrow then (.mk 4 0 [r.1, (rdP l m f none (r.2.1 + 1) (lv + 1)).1], (rdP l m f none (r.2.1 + 1) (lv + 1)).2.1, (rdP l m f none (r.2.1 + 1) (lv + 1)).2.2)
    else r
  else r
theorem rdP_none (l : List Tok) (m : Int) (f : Nat) (i lv : Int) : rdP l m (f + 1) none i lv = if m < lv then (zTy, i, 4) else arP l m f lv (bsP l m f i lv) := rfl
theorem rdP_some (l : List Tok) (m : Int) (f : Nat) (ps : List Ty) (i lv : Int) : rdP l m (f + 1) (some ps) i lv =
    if isT l i 4 bClose then (tupP ps, i + 1, 0)
    else if isT l i 4 bStar then
      if ps.length = 8 then (tupP ps, i, 6) else
      if (rdP l m f none (i + 1) lv).2.2 = 0 then rdP l m f (some (ps ++ [(rdP l m f none (i + 1) lv).1])) (rdP l m f none (i + 1) lv).2.1 lv
      else (tupP (ps ++ [(rdP l m f none (i + 1) lv).1]), (rdP l m f none (i + 1) lv).2.1, (rdP l m f none (i + 1) lv).2.2)
    else (tupP ps, i, 3) := rfl
def lsR (l : List Tok) (m : Int) (f : Nat) (i lv : Int) : Ty × Int × Int :=
  if (rd l m f none i lv).2.2 = 0 then rd l m f (some [(rd l m f none i lv).1]) (rd l m f none i lv).2.1 lv else (zTy, (rd l m f none i lv).2.1, (rd l m f none i lv).2.2)
def bsR (l : List Tok) (m : Int) (f : Nat) (i lv : Int) : Ty × Int × Int :=
  if isT l i 3 bInt then (.mk 2 0 [], i + 1, 0) else if isT l i 3 bBool then (.mk 3 0 [], i + 1, 0)
  else if isT l i 4 bOpen then lsR l m f (i + 1) (lv + 1) else (zTy, i, 3)
def arR (l : List Tok) (m : Int) (f : Nat) (lv : Int) (r : Ty × Int × Int) : Ty × Int × Int :=
  if r.2.2 = 0 then
    if isT l r.2.1 4 bArrow then
      if (rd l m f none (r.2.1 + 1) (lv + 1)).2.2 = 0 then (.mk 4 0 [r.1, (rd l m f none (r.2.1 + 1) (lv + 1)).1], (rd l m f none (r.2.1 + 1) (lv + 1)).2.1, 0)
      else (zTy, (rd l m f none (r.2.1 + 1) (lv + 1)).2.1, (rd l m f none (r.2.1 + 1) (lv + 1)).2.2)
    else r
  else (zTy, r.2.1, r.2.2)
theorem rd_none (l : List Tok) (m : Int) (f : Nat) (i lv : Int) : rd l m (f + 1) none i lv = if m < lv then (zTy, i, 4) else arR l m f lv (bsR l m f i lv) := rfl
theorem rd_some (l : List Tok) (m : Int) (f : Nat) (ps : List Ty) (i lv : Int) : rd l m (f + 1) (some ps) i lv =
    if isT l i 4 bClose then (tupP ps, i + 1, 0)
    else if isT l i 4 bStar then
      if 8 ≤ ps.length then (zTy, i, 6) else
      if (rd l m f none (i + 1) lv).2.2 = 0 then rd l m f (some (ps ++ [(rd l m f none (i + 1) lv).1])) (rd l m f none (i + 1) lv).2.1 lv
      else (zTy, (rd l m f none (i + 1) lv).2.1, (rd l m f none (i + 1) lv).2.2)
    else (zTy, i, 3) := rfl
def Agree (r q : Ty × Int × Int) : Prop := r.2 = q.2 ∧ (q.2.2 = 0 → r = q)
theorem Agree.refl (r : Ty × Int × Int) : Agree r r := ⟨rfl, fun _ => rfl⟩
theorem rdP_rd (l : List Tok) (m : Int) : ∀ (f : Nat) (o : Option (List Ty)) (i lv : Int), (∀ ps, o = some ps → ps.length ≤ 8) → Agree (rdP l m f o i lv) (rd l m f o i lv)
  | 0, _, i, _, _ => Agree.refl _
  | f + 1, none, i, lv, _ => by
    have ih := rdP_rd l m f
    have hn := fun i lv => ih none i lv (fun ps h => by cases h)
    rw [rdP_none, rd_none]
    split
    · exact Agree.refl _
    have hls : ∀ i lv, Agree (lsP l m f i lv) (lsR l m f i lv) := fun i lv => by
      have h1 := hn i lv
      unfold lsP lsR
      by_cases h0 : (rd l m f none i lv).2.2 = 0
      · rw [h1.2 h0, if_pos h0, if_pos h0]
        exact ih _ _ _ fun ps h => by cases h; simp
      · rw [if_neg h0, if_neg (by rw [h1.1]; exact h0)]
        exact ⟨by rw [h1.1], fun h => absurd h h0⟩
    have hbs : Agree (bsP l m f i lv) (bsR l m f i lv) := by
      unfold bsP bsR
      split
      · exact Agree.refl _
      split
      · exact Agree.refl _
      split
      · exact hls _ _
      · exact Agree.refl _
    unfold arP arR
    by_cases h0 : (bsR l m f i lv).2.2 = 0
    · rw [hbs.2 h0, if_pos h0, if_pos h0]
      split
      · have h1 := hn ((bsR l m f i lv).2.1 + 1) (lv + 1)
        by_cases h2 : (rd l m f none ((bsR l m f i lv).2.1 + 1) (lv + 1)).2.2 = 0
        · rw [h1.2 h2, if_pos h2, h2]; exact Agree.refl _
        · rw [if_neg h2]
          exact ⟨by rw [h1.1], fun h => absurd h h2⟩
      · exact Agree.refl _
    · rw [if_neg h0, if_neg (by rw [hbs.1]; exact h0)]
      exact ⟨by rw [hbs.1], fun h => absurd h h0⟩
  | f + 1, some ps, i, lv, hps => by
    have ih := rdP_rd l m f
    have hn := fun i lv => ih none i lv (fun ps h => by cases h)
    have h8 := hps ps rfl
    rw [rdP_some, rd_some]
    split
    · exact Agree.refl _
    split
    · by_cases h : ps.length = 8
      · rw [if_pos h, if_pos (show 8 ≤ ps.length by omega)]
        exact ⟨rfl, fun h => by simp at h⟩
      · rw [if_neg h, if_neg (show ¬ 8 ≤ ps.length by omega)]
        have h1 := hn (i + 1) lv
        by_cases h2 : (rd l m f none (i + 1) lv).2.2 = 0
        · rw [h1.2 h2, if_pos h2, if_pos h2]
          exact ih _ _ _ fun qs h => by cases h; simp; omega
        · rw [if_neg h2, if_neg (by rw [h1.1]; exact h2)]
          exact ⟨by rw [h1.1], fun h => absurd h h2⟩
    · exact ⟨rfl, fun h => by simp at h⟩
theorem rdP_pos (l : List Tok) (m : Int) (f : Nat) (i lv : Int) : (rdP l m f none i lv).2 = (rd l m f none i lv).2 := (rdP_rd l m f none i lv (fun ps h => by cases h)).1
theorem rdP_mono (l : List Tok) (m : Int) (f : Nat) (i lv : Int) : i ≤ (rdP l m f none i lv).2.1 := by rw [rdP_pos]; exact (rd_mono l m f none i lv).1
def lft (l : List Tok) (i : Int) : Nat := ((l.length : Int) - max i 0).toNat
theorem lft_len (l : List Tok) (i : Int) : lft l i ≤ l.length := by unfold lft; omega
theorem lft_next {l : List Tok} {i k : Int} {s : ByteArray} (h : isT l i k s = true) : lft l (i + 1) < lft l i := by
  have := isT_lt h
  unfold lft; omega
theorem lft_le {l : List Tok} {i j : Int} (h : i ≤ j) : lft l j ≤ lft l i := by unfold lft; omega
theorem lsP_mono (l : List Tok) (m : Int) (f : Nat) (i lv : Int) : i ≤ (lsP l m f i lv).2.1 := by
  have h1 := rdP_mono l m f i lv
  unfold lsP
  split
  · have h2 := (rdP_rd l m f (some [(rdP l m f none i lv).1]) (rdP l m f none i lv).2.1 lv (fun ps h => by cases h; simp)).1
    have h3 := (rd_mono l m f (some [(rdP l m f none i lv).1]) (rdP l m f none i lv).2.1 lv).1
    rw [h2]; omega
  · exact h1
theorem bsP_mono (l : List Tok) (m : Int) (f : Nat) (i lv : Int) : i ≤ (bsP l m f i lv).2.1 := by
  unfold bsP
  split
  · simp only; omega
  split
  · simp only; omega
  split
  · have := lsP_mono l m f (i + 1) (lv + 1); omega
  · simp
theorem deep_e {m lv e0 : Int} (h : (if decide (lv > m) = true ∧ (0 : Int) = 0 then (4 : Int) else 0) = e0) : (m < lv ∧ e0 = 4) ∨ (¬ m < lv ∧ e0 = 0) := by
  by_cases hd : m < lv
  · rw [if_pos ⟨by simpa using hd, rfl⟩] at h
    exact .inl ⟨hd, h.symm⟩
  · rw [if_neg (by simpa using hd)] at h
    exact .inr ⟨hd, h.symm⟩
structure LS where
  f : Nat
  ps : List Ty
  i : Int
  e : Int
def LS.ok (l : List Tok) (m : Int) (f0 : Nat) (lv i0 : Int) (RES : Ty × Int × Int) (s : LS) : Prop :=
  0 < s.ps.length ∧ s.ps.length ≤ 8 ∧ i0 ≤ s.i ∧ s.f ≤ f0 ∧ (if s.e = 0 then rdP l m s.f (some s.ps) s.i lv = RES ∧ lft l s.i < s.f else RES = (tupP s.ps, s.i, s.e))
theorem tupP_one {ps : List Ty} (h : ps.length = 1) : ∃ t, ps = [t] ∧ tupP ps = t := by
  match ps, h with
  | [t], _ => exact ⟨t, rfl, rfl⟩
theorem tupP_more {ps : List Ty} (h : ¬ ps.length = 1) : tupP ps = .mk 5 0 ps := by
  match ps, h with
  | [], _ => rfl
  | _ :: _ :: _, _ => rfl
section
variable {l : List Tok} {m : Int} {f0 : Nat} {lv i0 : Int} {RES : Ty × Int × Int} {s : LS} {g : Nat}
theorem LS.start (l : List Tok) (m : Int) (f : Nat) (i lv : Int) (h : lft l i < f) :
    LS.ok l m f lv i (lsP l m f i lv) ⟨f, [(rdP l m f none i lv).1], (rdP l m f none i lv).2.1, (rdP l m f none i lv).2.2⟩ := by
  refine ⟨by simp, by simp, rdP_mono _ _ _ _ _, Nat.le_refl _, ?_⟩
  simp only [lsP]
  split
  · exact ⟨rfl, Nat.lt_of_le_of_lt (lft_le (rdP_mono _ _ _ _ _)) h⟩
  · rfl
theorem LS.ok.fuel (h : LS.ok l m f0 lv i0 RES s) (he : s.e = 0) : ∃ g, s.f = g + 1 ∧ g < f0 ∧ lft l s.i < g + 1 := by
  obtain ⟨_, _, _, h4, h5⟩ := h
  rw [if_pos he] at h5
  exact ⟨s.f - 1, by omega, by omega, by omega⟩
theorem LS.ok.res (h : LS.ok l m f0 lv i0 RES s) (he : s.e = 0) (hg : s.f = g + 1) : rdP l m (g + 1) (some s.ps) s.i lv = RES := by
  have h5 := h.2.2.2.2
  rw [if_pos he, hg] at h5
  exact h5.1
theorem LS.ok.stop (h : LS.ok l m f0 lv i0 RES s) (he : ¬ s.e = 0) : RES = (tupP s.ps, s.i, s.e) := by
  have h5 := h.2.2.2.2
  rwa [if_neg he] at h5
theorem LS.ok.close (h : LS.ok l m f0 lv i0 RES s) (he : s.e = 0) (hg : s.f = g + 1) (h1 : isT l s.i 4 bClose = true) : RES = (tupP s.ps, s.i + 1, 0) := by
  rw [← h.res he hg, rdP_some, if_pos h1]
theorem LS.ok.form (h : LS.ok l m f0 lv i0 RES s) (he : s.e = 0) (hg : s.f = g + 1) (h1 : isT l s.i 4 bClose = false) (h2 : isT l s.i 4 bStar = false) : LS.ok l m f0 lv i0 RES ⟨s.f, s.ps, s.i, 3⟩ := by
  refine ⟨h.1, h.2.1, h.2.2.1, h.2.2.2.1, ?_⟩
  simp only
  rw [if_neg (by decide), ← h.res he hg, rdP_some, if_neg (by simp [h1]), if_neg (by simp [h2])]
theorem LS.ok.many (h : LS.ok l m f0 lv i0 RES s) (he : s.e = 0) (hg : s.f = g + 1) (h1 : isT l s.i 4 bClose = false) (h2 : isT l s.i 4 bStar = true) (h3 : s.ps.length = 8) : LS.ok l m f0 lv i0 RES ⟨s.f, s.ps, s.i, 6⟩ := by
  refine ⟨h.1, h.2.1, h.2.2.1, h.2.2.2.1, ?_⟩
  simp only
  rw [if_neg (by decide), ← h.res he hg, rdP_some, if_neg (by simp [h1]), if_pos h2, if_pos h3]
theorem LS.ok.next (h : LS.ok l m f0 lv i0 RES s) (he : s.e = 0) (hg : s.f = g + 1) (h1 : isT l s.i 4 bClose = false) (h2 : isT l s.i 4 bStar = true) (h3 : ¬ s.ps.length = 8) :
    LS.ok l m f0 lv i0 RES ⟨g, s.ps ++ [(rdP l m g none (s.i + 1) lv).1], (rdP l m g none (s.i + 1) lv).2.1, (rdP l m g none (s.i + 1) lv).2.2⟩ := by
  have hr := h.res he hg
  rw [rdP_some, if_neg (by simp [h1]), if_pos h2, if_neg h3] at hr
  have hm := rdP_mono l m g (s.i + 1) lv
  obtain ⟨g', hg', _, hl⟩ := h.fuel he
  have hn := lft_next h2
  have hl2 := lft_le (l := l) hm
  refine ⟨by simp, ?_, ?_, ?_, ?_⟩
  · have := h.2.1; simp; omega
  · have := h.2.2.1; simp only; omega
  · have := h.2.2.2.1; simp only; omega
  · simp only
    split
    · rename_i h0
      rw [if_pos h0] at hr
      exact ⟨hr, by omega⟩
    · rename_i h0
      rw [if_neg h0] at hr
      exact hr.symm
end
structure RS where
  f : Nat
  ps : List Ty
  i : Int
  p : Ty
def RS.ok (l : List Tok) (m : Int) (f0 : Nat) (lv i0 : Int) (RES : Ty × Int × Int) (s : RS) : Prop :=
  0 < s.ps.length ∧ i0 ≤ s.i ∧ s.f ≤ f0 ∧ rd l m s.f (some s.ps) s.i lv = RES ∧ lft l s.i < s.f
section
variable {l : List Tok} {m : Int} {f0 : Nat} {lv i0 : Int} {RES : Ty × Int × Int} {s : RS} {g : Nat}
end
end Go.Proofs.YtkokfdmggdhfmaaDoor
