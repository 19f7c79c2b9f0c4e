/- Texts of the abstract walk, of the contracts and of the plain laws, packed (part 31 of 44): Same Right Types Sizes Ref11 Rob1 MatchL SolA SolC SchL. Conditions: none. -/
import Derived.Test.YtheacaigeidflaaDoorPk30
namespace Go.Proofs.YtheacaigeidflaaDoor
open Go Go.RowKit
set_option maxRecDepth 100000
set_option maxHeartbeats 1000000
set_option linter.unusedSimpArgs false
set_option linter.unusedVariables false
attribute [local irreducible] aops dRun
theorem Ty.ind {C : Ty → Prop} (h : ∀ T, (∀ p ∈ T.ps, C p) → C T) : ∀ T, C T := by
  have key : ∀ n, ∀ T : Ty, SizeOf.sizeOf T ≤ n → C T := by
    intro n
    induction n with
    | zero => intro T hT; cases T; simp at hT
    | succ n ih =>
      intro T hT
      refine h T (fun p hp => ih p ?_)
      cases T with
      | mk k m ps =>
        have := List.sizeOf_lt_of_mem (show p ∈ ps from hp)
        simp at hT
        omega
  exact fun T => key _ T (Nat.le_refl _)
mutual
def Ty.same : Ty → Ty → Bool
  | .mk k n ps, .mk k' n' ps' => k == k' && n == n' && Ty.sameL ps ps'
def Ty.sameL : List Ty → List Ty → Bool
  | [], [] => true
  | p :: ps, q :: qs => Ty.same p q && Ty.sameL ps qs
  | _, _ => false
end
theorem Ty.same_eq (a b : Ty) : a.same b = (a.k == b.k && a.n == b.n && Ty.sameL a.ps b.ps) := by cases a; cases b; simp [Ty.same, Ty.k, Ty.n, Ty.ps]
end Go.Proofs.YtheacaigeidflaaDoor
namespace Go.Proofs.YtheacaigeidflaaDoor
open Go Go.RowKit
set_option maxRecDepth 100000
set_option maxHeartbeats 4000000
set_option linter.unusedSimpArgs false
set_option linter.unusedVariables false
attribute [local irreducible] aops dRun
def okN (k n : Int) (len : Nat) : Bool :=
  decide ((k = 1 ∧ 0 ≤ n ∧ n < 1073741824 ∧ len = 0) ∨ (n = 0 ∧ (((k = 2 ∨ k = 3) ∧ len = 0) ∨ (k = 4 ∧ len = 2) ∨ (k = 5 ∧ 2 ≤ len ∧ len ≤ 8))))
mutual
def Ty.right : Ty → Bool
  | .mk k n ps => okN k n ps.length && Ty.rightL ps
def Ty.rightL : List Ty → Bool
  | [] => true
  | p :: ps => Ty.right p && Ty.rightL ps
end
theorem Ty.rightL_eq : ∀ ps, Ty.rightL ps = ps.all Ty.right
  | [] => by simp [Ty.rightL]
  | p :: ps => by simp [Ty.rightL, Ty.rightL_eq ps]
theorem Ty.right_eq (t : Ty) : t.right = (okN t.k t.n t.ps.length && t.ps.all Ty.right) := by cases t; simp [Ty.right, Ty.rightL_eq, Ty.k, Ty.n, Ty.ps]
theorem known_pure (n : Int) : APure Tryd.prog 78 [.v (.int .i64 n)] (.v (.bool (decide (0 ≤ n ∧ n < 1073741824)))) := by
  refine APure.mkL (.cons (.v _) .nil) (.v _) ?_
  refine ACalls_intro Tryd.func78 (by kernel_rfl) rfl (by rw [Tryd.ntmps78]; simp) (fun hm => ?_)
  simp only [Tryd.ntmps78, Tryd.results78, List.length_cons, List.length_nil, Nat.reduceAdd, Nat.reduceSub, List.replicate_succ, List.replicate_zero, List.cons_append, List.nil_append]
  refine AWp_seqK fun Y0 y0 => ?_
  refine AWp_region ?_
  simp only [↓bO, go_sem, seval]
  refine y0 _ ?_
  try clear y0 Y0
  refine AWp_seqK fun Y0 y0 => ?_
  refine AWp_region ?_
  refine aops_chunk 3 fun Q0 q0 => ?_
  simp only [↓bO, go_sem, seval]
  refine q0 _ ?_
  clear q0 Q0
  simp only [go_sem]
  refine aops_case 5 rfl (fun hc5 => ?_) (fun hc5 => ?_)
  ·
   simp only [List.set_cons_zero, List.set_cons_succ]
   simp only [↓bO, go_sem, seval]
   refine y0 _ ?_
   try clear y0 Y0
   refine AWp_ret ?_
   try simp only [thenQ, blockQ, noGotoQ, retQ, aRes, tupOf, bS, bA]
   refine Le.of_eq (congrArg (fun b => AV.v (.bool b)) ?_)
   simp at *; omega
  ·
   simp only [List.set_cons_zero, List.set_cons_succ]
   simp only [↓bO, go_sem, seval]
   refine y0 _ ?_
   try clear y0 Y0
   refine AWp_ret ?_
   try simp only [thenQ, blockQ, noGotoQ, retQ, aRes, tupOf, bS, bA]
   refine Le.of_eq (congrArg (fun b => AV.v (.bool b)) ?_)
   simp at *; omega
theorem plain_pure (T : Ty) : APure Tryd.prog 59 [.agg T.cells] (.v (.bool (okN T.k T.n T.ps.length))) := by
  refine APure.mkL (.cons T.dataAgg .nil) (.v _) ?_
  refine ACalls_intro Tryd.func59 (by kernel_rfl) rfl (by rw [Tryd.ntmps59]; simp) (fun hm => ?_)
  simp only [Tryd.ntmps59, Tryd.results59, List.length_cons, List.length_nil, Nat.reduceAdd, Nat.reduceSub, List.replicate_succ, List.replicate_zero, List.cons_append, List.nil_append]
  refine AWp_seqK fun Y0 y0 => ?_
  refine AWp_region ?_
  simp only [↓bO, go_sem, seval]
  refine y0 _ ?_
  try clear y0 Y0
  refine AWp_seqK fun Y0 y0 => ?_
  refine AWp_region ?_
  refine aops_chunk 3 fun Q0 q0 => ?_
  simp only [↓bO, go_sem, seval]
  refine q0 _ ?_
  clear q0 Q0
  simp only [go_sem]
  simp only [↓bO, go_sem, seval]
  refine y0 _ ?_
  try clear y0 Y0
  refine AWp_seqK fun Y0 y0 => ?_
  refine AWp_seqK fun Y1 y1 => ?_
  refine AWp_region ?_
  simp only [↓bO, go_sem, seval]
  refine y1 _ ?_
  try clear y1 Y1
  refine AWp_block ?_
  refine AWp_seqK fun Y1 y1 => ?_
  refine AWp_region ?_
  simp only [↓bO, go_sem, seval]
  refine y1 _ ?_
  try clear y1 Y1
  refine AWp_cond rfl (fun hb9 => ?_) (fun hb9 => ?_)
  ·
   refine AWp_seqK fun Y1 y1 => ?_
   refine AWp_region ?_
   refine aops_chunk 2 fun Q0 q0 => ?_
   simp only [↓bO, go_sem, seval]
   refine q0 _ ?_
   clear q0 Q0
   simp only [go_sem]
   refine aops_chunk 1 fun Q0 q0 => ?_
   simp only [↓bO, go_sem, seval]
   refine APure.call (known_pure T.n) ?_
   try simp only [bS, bA, thenQ, blockQ, noGotoQ]
   refine q0 _ ?_
   clear q0 Q0
   simp only [go_sem]
   refine aops_chunk 1 fun Q0 q0 => ?_
   simp only [↓bO, go_sem, seval]
   refine q0 _ ?_
   clear q0 Q0
   simp only [go_sem]
   refine aops_case 14 rfl (fun hc14 => ?_) (fun hc14 => ?_)
   ·
    simp only [List.set_cons_zero, List.set_cons_succ]
    refine aops_chunk 3 fun Q0 q0 => ?_
    simp only [↓bO, go_sem, seval]
    refine q0 _ ?_
    clear q0 Q0
    simp only [go_sem]
    simp only [↓bO, go_sem, seval]
    refine y1 _ ?_
    try clear y1 Y1
    refine AWp_ret ?_
    try simp only [thenQ, blockQ, noGotoQ, retQ, aRes, tupOf, bS, bA]
    refine Le.of_eq (congrArg (fun b => AV.v (.bool b)) ?_)
    rw [Bool.eq_iff_iff]
    simp only [okN, decide_eq_true_eq, beq_iff_eq, Bool.false_eq_true, beq_eq_false_iff_ne, ne_eq, decide_eq_false_iff_not, false_iff, true_iff, and_true, true_and] at *
    try omega
   ·
    simp only [List.set_cons_zero, List.set_cons_succ]
    refine aops_chunk 3 fun Q0 q0 => ?_
    simp only [↓bO, go_sem, seval]
    refine q0 _ ?_
    clear q0 Q0
    simp only [go_sem]
    simp only [↓bO, go_sem, seval]
    refine y1 _ ?_
    try clear y1 Y1
    refine AWp_ret ?_
    try simp only [thenQ, blockQ, noGotoQ, retQ, aRes, tupOf, bS, bA]
    refine Le.of_eq (congrArg (fun b => AV.v (.bool b)) ?_)
    rw [Bool.eq_iff_iff]
    simp only [okN, decide_eq_true_eq, beq_iff_eq, Bool.false_eq_true, beq_eq_false_iff_ne, ne_eq, decide_eq_false_iff_not, false_iff, true_iff, and_true, true_and] at *
    try omega
  ·
   refine AWp_seqK fun Y1 y1 => ?_
   refine AWp_seqK fun Y2 y2 => ?_
   refine AWp_region ?_
   simp only [↓bO, go_sem, seval]
   refine y2 _ ?_
   try clear y2 Y2
   refine AWp_cond rfl (fun hb18 => ?_) (fun hb18 => ?_)
   ·
    refine AWp_skip ?_
    try simp only [thenQ, blockQ, noGotoQ]
    refine y1 _ ?_
    try clear y1 Y1
    refine AWp_cond (b := true) (by first | exact rfl | exact congrArg (fun b => AV.v (.bool b)) hb18) (fun _ => ?_) (fun h => (by cases h))
    refine AWp_seqK fun Y1 y1 => ?_
    refine AWp_region ?_
    refine aops_chunk 3 fun Q0 q0 => ?_
    simp only [↓bO, go_sem, seval]
    refine q0 _ ?_
    clear q0 Q0
    simp only [go_sem]
    refine aops_chunk 1 fun Q0 q0 => ?_
    simp only [↓bO, go_sem, seval]
    refine q0 _ ?_
    clear q0 Q0
    simp only [go_sem]
    refine aops_case 24 rfl (fun hc24 => ?_) (fun hc24 => ?_)
    ·
     simp only [List.set_cons_zero, List.set_cons_succ]
     refine aops_chunk 3 fun Q0 q0 => ?_
     simp only [↓bO, go_sem, seval]
     refine q0 _ ?_
     clear q0 Q0
     simp only [go_sem]
     simp only [↓bO, go_sem, seval]
     refine y1 _ ?_
     try clear y1 Y1
     refine AWp_ret ?_
     try simp only [thenQ, blockQ, noGotoQ, retQ, aRes, tupOf, bS, bA]
     refine Le.of_eq (congrArg (fun b => AV.v (.bool b)) ?_)
     rw [Bool.eq_iff_iff]
     simp only [okN, decide_eq_true_eq, beq_iff_eq, Bool.false_eq_true, beq_eq_false_iff_ne, ne_eq, decide_eq_false_iff_not, false_iff, true_iff, and_true, true_and] at *
     try omega
    ·
     simp only [List.set_cons_zero, List.set_cons_succ]
     refine aops_chunk 3 fun Q0 q0 => ?_
     simp only [↓bO, go_sem, seval]
     refine q0 _ ?_
     clear q0 Q0
     simp only [go_sem]
     simp only [↓bO, go_sem, seval]
     refine y1 _ ?_
     try clear y1 Y1
     refine AWp_ret ?_
     try simp only [thenQ, blockQ, noGotoQ, retQ, aRes, tupOf, bS, bA]
     refine Le.of_eq (congrArg (fun b => AV.v (.bool b)) ?_)
     rw [Bool.eq_iff_iff]
     simp only [okN, decide_eq_true_eq, beq_iff_eq, Bool.false_eq_true, beq_eq_false_iff_ne, ne_eq, decide_eq_false_iff_not, false_iff, true_iff, and_true, true_and] at *
     try omega
   ·
    refine AWp_region ?_
    simp only [↓bO, go_sem, seval]
    refine y1 _ ?_
    try clear y1 Y1
    refine AWp_cond rfl (fun hb18 => ?_) (fun hb18 => ?_)
    ·
     refine AWp_seqK fun Y1 y1 => ?_
     refine AWp_region ?_
     refine aops_chunk 3 fun Q0 q0 => ?_
     simp only [↓bO, go_sem, seval]
     refine q0 _ ?_
     clear q0 Q0
     simp only [go_sem]
     refine aops_chunk 1 fun Q0 q0 => ?_
     simp only [↓bO, go_sem, seval]
     refine q0 _ ?_
     clear q0 Q0
     simp only [go_sem]
     refine aops_case 24 rfl (fun hc24 => ?_) (fun hc24 => ?_)
     ·
      simp only [List.set_cons_zero, List.set_cons_succ]
      refine aops_chunk 3 fun Q0 q0 => ?_
      simp only [↓bO, go_sem, seval]
      refine q0 _ ?_
      clear q0 Q0
      simp only [go_sem]
      simp only [↓bO, go_sem, seval]
      refine y1 _ ?_
      try clear y1 Y1
      refine AWp_ret ?_
      try simp only [thenQ, blockQ, noGotoQ, retQ, aRes, tupOf, bS, bA]
      refine Le.of_eq (congrArg (fun b => AV.v (.bool b)) ?_)
      rw [Bool.eq_iff_iff]
      simp only [okN, decide_eq_true_eq, beq_iff_eq, Bool.false_eq_true, beq_eq_false_iff_ne, ne_eq, decide_eq_false_iff_not, false_iff, true_iff, and_true, true_and] at *
      try omega
     ·
      simp only [List.set_cons_zero, List.set_cons_succ]
      refine aops_chunk 3 fun Q0 q0 => ?_
      simp only [↓bO, go_sem, seval]
      refine q0 _ ?_
      clear q0 Q0
      simp only [go_sem]
      simp only [↓bO, go_sem, seval]
      refine y1 _ ?_
      try clear y1 Y1
      refine AWp_ret ?_
      try simp only [thenQ, blockQ, noGotoQ, retQ, aRes, tupOf, bS, bA]
      refine Le.of_eq (congrArg (fun b => AV.v (.bool b)) ?_)
      rw [Bool.eq_iff_iff]
      simp only [okN, decide_eq_true_eq, beq_iff_eq, Bool.false_eq_true, beq_eq_false_iff_ne, ne_eq, decide_eq_false_iff_not, false_iff, true_iff, and_true, true_and] at *
      try omega
    ·
     refine AWp_seqK fun Y1 y1 => ?_
     refine AWp_region ?_
     simp only [↓bO, go_sem, seval]
     refine y1 _ ?_
     try clear y1 Y1
     refine AWp_cond rfl (fun hb28 => ?_) (fun hb28 => ?_)
     ·
      refine AWp_seqK fun Y1 y1 => ?_
      refine AWp_region ?_
      refine aops_chunk 3 fun Q0 q0 => ?_
      simp only [↓bO, go_sem, seval]
      refine q0 _ ?_
      clear q0 Q0
      simp only [go_sem]
      refine aops_chunk 1 fun Q0 q0 => ?_
      simp only [↓bO, go_sem, seval]
      refine q0 _ ?_
      clear q0 Q0
      simp only [go_sem]
      refine aops_case 33 rfl (fun hc33 => ?_) (fun hc33 => ?_)
      ·
       simp only [List.set_cons_zero, List.set_cons_succ]
       refine aops_chunk 3 fun Q0 q0 => ?_
       simp only [↓bO, go_sem, seval]
       refine q0 _ ?_
       clear q0 Q0
       simp only [go_sem]
       simp only [↓bO, go_sem, seval]
       refine y1 _ ?_
       try clear y1 Y1
       refine AWp_ret ?_
       try simp only [thenQ, blockQ, noGotoQ, retQ, aRes, tupOf, bS, bA]
       refine Le.of_eq (congrArg (fun b => AV.v (.bool b)) ?_)
       rw [Bool.eq_iff_iff]
       simp only [okN, decide_eq_true_eq, beq_iff_eq, Bool.false_eq_true, beq_eq_false_iff_ne, ne_eq, decide_eq_false_iff_not, false_iff, true_iff, and_true, true_and] at *
       try omega
      ·
       simp only [List.set_cons_zero, List.set_cons_succ]
       refine aops_chunk 3 fun Q0 q0 => ?_
       simp only [↓bO, go_sem, seval]
       refine q0 _ ?_
       clear q0 Q0
       simp only [go_sem]
       simp only [↓bO, go_sem, seval]
       refine y1 _ ?_
       try clear y1 Y1
       refine AWp_ret ?_
       try simp only [thenQ, blockQ, noGotoQ, retQ, aRes, tupOf, bS, bA]
       refine Le.of_eq (congrArg (fun b => AV.v (.bool b)) ?_)
       rw [Bool.eq_iff_iff]
       simp only [okN, decide_eq_true_eq, beq_iff_eq, Bool.false_eq_true, beq_eq_false_iff_ne, ne_eq, decide_eq_false_iff_not, false_iff, true_iff, and_true, true_and] at *
       try omega
     ·
      refine AWp_seqK fun Y1 y1 => ?_
      refine AWp_region ?_
      simp only [↓bO, go_sem, seval]
      refine y1 _ ?_
      try clear y1 Y1
      refine AWp_cond rfl (fun hb37 => ?_) (fun hb37 => ?_)
      ·
       refine AWp_seqK fun Y1 y1 => ?_
       refine AWp_region ?_
       refine aops_chunk 3 fun Q0 q0 => ?_
       simp only [↓bO, go_sem, seval]
       refine q0 _ ?_
       clear q0 Q0
       simp only [go_sem]
       refine aops_chunk 1 fun Q0 q0 => ?_
       simp only [↓bO, go_sem, seval]
       refine q0 _ ?_
       clear q0 Q0
       simp only [go_sem]
       refine aops_case 42 rfl (fun hc42 => ?_) (fun hc42 => ?_)
       ·
        simp only [List.set_cons_zero, List.set_cons_succ]
        refine aops_chunk 3 fun Q0 q0 => ?_
        simp only [↓bO, go_sem, seval]
        refine q0 _ ?_
        clear q0 Q0
        simp only [go_sem]
        refine aops_chunk 1 fun Q0 q0 => ?_
        simp only [↓bO, go_sem, seval]
        refine q0 _ ?_
        clear q0 Q0
        simp only [go_sem]
        refine aops_case 46 rfl (fun hc46 => ?_) (fun hc46 => ?_)
        ·
         simp only [List.set_cons_zero, List.set_cons_succ]
         refine aops_chunk 3 fun Q0 q0 => ?_
         simp only [↓bO, go_sem, seval]
         refine q0 _ ?_
         clear q0 Q0
         simp only [go_sem]
         simp only [↓bO, go_sem, seval]
         refine y1 _ ?_
         try clear y1 Y1
         refine AWp_ret ?_
         try simp only [thenQ, blockQ, noGotoQ, retQ, aRes, tupOf, bS, bA]
         refine Le.of_eq (congrArg (fun b => AV.v (.bool b)) ?_)
         rw [Bool.eq_iff_iff]
         simp only [okN, decide_eq_true_eq, beq_iff_eq, Bool.false_eq_true, beq_eq_false_iff_ne, ne_eq, decide_eq_false_iff_not, false_iff, true_iff, and_true, true_and] at *
         try omega
        ·
         simp only [List.set_cons_zero, List.set_cons_succ]
         refine aops_chunk 3 fun Q0 q0 => ?_
         simp only [↓bO, go_sem, seval]
         refine q0 _ ?_
         clear q0 Q0
         simp only [go_sem]
         simp only [↓bO, go_sem, seval]
         refine y1 _ ?_
         try clear y1 Y1
         refine AWp_ret ?_
         try simp only [thenQ, blockQ, noGotoQ, retQ, aRes, tupOf, bS, bA]
         refine Le.of_eq (congrArg (fun b => AV.v (.bool b)) ?_)
         rw [Bool.eq_iff_iff]
         simp only [okN, decide_eq_true_eq, beq_iff_eq, Bool.false_eq_true, beq_eq_false_iff_ne, ne_eq, decide_eq_false_iff_not, false_iff, true_iff, and_true, true_and] at *
         try omega
       ·
        simp only [List.set_cons_zero, List.set_cons_succ]
        iterate 2 (refine aops_chunk 3 fun Q0 q0 => ?_; simp only [↓bO, go_sem, seval]; refine q0 _ ?_; clear q0 Q0; simp only [go_sem])
        simp only [↓bO, go_sem, seval]
        refine y1 _ ?_
        try clear y1 Y1
        refine AWp_ret ?_
        try simp only [thenQ, blockQ, noGotoQ, retQ, aRes, tupOf, bS, bA]
        refine Le.of_eq (congrArg (fun b => AV.v (.bool b)) ?_)
        rw [Bool.eq_iff_iff]
        simp only [okN, decide_eq_true_eq, beq_iff_eq, Bool.false_eq_true, beq_eq_false_iff_ne, ne_eq, decide_eq_false_iff_not, false_iff, true_iff, and_true, true_and] at *
        try omega
      ·
       refine AWp_skip ?_
       try simp only [thenQ, blockQ, noGotoQ]
       refine y0 _ ?_
       try clear y0 Y0
       refine AWp_seqK fun Y0 y0 => ?_
       refine AWp_region ?_
       simp only [↓bO, go_sem, seval]
       refine y0 _ ?_
       try clear y0 Y0
       refine AWp_ret ?_
       try simp only [thenQ, blockQ, noGotoQ, retQ, aRes, tupOf, bS, bA]
       refine Le.of_eq (congrArg (fun b => AV.v (.bool b)) ?_)
       rw [Bool.eq_iff_iff]
       simp only [okN, decide_eq_true_eq, beq_iff_eq, Bool.false_eq_true, beq_eq_false_iff_ne, ne_eq, decide_eq_false_iff_not, false_iff, true_iff, and_true, true_and] at *
       try omega
theorem all_not_of {α : Type} {f : α → Bool} {ps : List α} {i : Nat} {p : α} (hp : ps[i]? = some p) (h : f p = true) : ps.any f = true := List.any_eq_true.2 ⟨p, List.mem_of_getElem? hp, h⟩
theorem any_false_of {α : Type} {f : α → Bool} {ps : List α} (h : ∀ (i : Nat) (p : α), i < ps.length → ps[i]? = some p → f p = false) : ps.any f = false := by
  rw [← Bool.not_eq_true, List.any_eq_true]
  rintro ⟨p, hp, hf⟩
  obtain ⟨i, hi, e⟩ := List.mem_iff_getElem.1 hp
  rw [h i p hi (by rw [List.getElem?_eq_getElem hi, e])] at hf; cases hf
def idxI {α : Type} (g : α → Bool) (l : List α) : Int := if l.any g then (l.findIdx g : Int) else -1
theorem idxI_some {α : Type} {g : α → Bool} {l : List α} {i : Nat} {p : α} (hp : l[i]? = some p) (h : g p = true) (hb : ∀ (j : Nat) (q : α), j < i → l[j]? = some q → g q = false) : idxI g l = (i : Int) := by
  have hi : i < l.length := (List.getElem?_eq_some_iff.1 hp).1
  have e : l[i] = p := (List.getElem?_eq_some_iff.1 hp).2
  rw [idxI, if_pos (all_not_of hp h)]
  congr 1
  refine List.findIdx_eq hi |>.2 ⟨by rw [e]; exact h, fun j hj => ?_⟩
  exact hb j _ hj (List.getElem?_eq_getElem (by omega))
theorem idxI_none {α : Type} {g : α → Bool} {l : List α} (hb : ∀ (j : Nat) (q : α), j < l.length → l[j]? = some q → g q = false) : idxI g l = -1 := by
  rw [idxI, any_false_of hb]; rfl
theorem idxI_ge {α : Type} {g : α → Bool} {l : List α} : decide (idxI g l ≥ 0) = l.any g := by
  unfold idxI
  split
  · rename_i h; rw [h]; simp
  · rename_i h; simp at h; simp; exact h
theorem IndexFuncTy_pure (ps : List Ty) (g : Nat) (f : Ty → Bool) (hf : ∀ p ∈ ps, APure Tryd.prog g [.agg p.cells] (.v (.bool (f p)))) : APure Tryd.prog 82 [.sl 3 (ps.map Ty.cells), .clo g []] (.v (.int .i64 (idxI f ps))) := by
  refine APure.mkL (.cons (Ty.dataSl ps) (.cons (.clo (fun _ h => by cases h)) .nil)) (.v _) ?_
  refine ACalls_intro Tryd.func82 (by kernel_rfl) rfl (by rw [Tryd.ntmps82]; simp) (fun hm => ?_)
  simp only [Tryd.ntmps82, Tryd.results82, List.length_cons, List.length_nil, Nat.reduceAdd, Nat.reduceSub, List.replicate_succ, List.replicate_zero, List.cons_append, List.nil_append]
  have hm1 := hm.len (sz := 3) (xs := ps.map Ty.cells) (by simp)
  rw [List.length_map] at hm1
  have hm2 : ∀ i : Nat, i < ps.length → IntKind.i64.wrap ((i : Int) + 1) = (i : Int) + 1 := fun i hi => wrap_in (by omega) (by simp only [maxLen] at hm1; omega)
  refine AWp_seqK fun Y0 y0 => ?_
  refine AWp_region ?_
  simp only [↓bO, go_sem, seval]
  refine y0 _ ?_
  try clear y0 Y0
  refine AWp_seqK fun Y0 y0 => ?_
  refine AWp_seqK fun Y1 y1 => ?_
  refine AWp_region ?_
  simp only [↓bO, go_sem, seval]
  refine y1 _ ?_
  try clear y1 Y1
  refine AWp_block ?_
  refine AWp_loopM (σ := Nat) (mB 19 387) (fun s => s ≤ ps.length ∧ ∀ (i : Nat) (p : Ty), i < s → ps[i]? = some p → f p = false) (fun s => [(8, .v (.int .i64 (s : Int)))]) (fun s => []) (fun s => ps.length - s) 0 (⟨by omega, fun i p hi => by omega⟩) ?_ (fun s hs => ?_)
  ·
   simp only [maskL, setsL, putsO, putO, mB, List.set_cons_zero, List.set_cons_succ, seval]
   exact Weak.mk (by simp only [go_sem, Le.refl, Le.any, Le.slNil, Int.natCast_add, Int.cast_ofNat_Int, Int.natCast_one]) (fun _ _ h => h) rfl rfl
  simp only [maskL, setsL, putsO, putO, mB, List.set_cons_zero, List.set_cons_succ, seval]
  refine AWp_seqK fun Y1 y1 => ?_
  refine AWp_region ?_
  simp only [↓bO, go_sem, seval]
  refine y1 _ ?_
  try clear y1 Y1
  refine AWp_seqK fun Y1 y1 => ?_
  refine AWp_cond rfl (fun hb9 => ?_) (fun hb9 => ?_)
  ·
   have hk : s < ps.length := by simpa using hb9
   obtain ⟨p, hp⟩ : ∃ p, ps[s]? = some p := ⟨_, List.getElem?_eq_getElem hk⟩
   have hw := hm2 s hk
   refine AWp_skip ?_
   try simp only [thenQ, blockQ, noGotoQ]
   refine y1 _ ?_
   try clear y1 Y1
   refine AWp_seqK fun Y1 y1 => ?_
   refine AWp_block ?_
   refine AWp_seqK fun Y2 y2 => ?_
   refine AWp_region ?_
   simp only [↓bO, go_sem, seval, hk, gM hp, Int.natCast_add, hw]
   refine y2 _ ?_
   try clear y2 Y2
   refine AWp_seqK fun Y2 y2 => ?_
   refine AWp_region ?_
   refine aops_chunk 4 fun Q0 q0 => ?_
   simp only [↓bO, go_sem, seval, hk, gM hp, Int.natCast_add, hw]
   refine q0 _ ?_
   clear q0 Q0
   simp only [go_sem]
   refine aops_chunk 1 fun Q0 q0 => ?_
   simp only [↓bO, go_sem, seval, hk, gM hp, Int.natCast_add, hw]
   refine q0 _ ?_
   clear q0 Q0
   simp only [go_sem]
   simp only [↓bO, go_sem, seval, hk, gM hp, Int.natCast_add, hw]
   refine APure.call (hf p (List.mem_of_getElem? hp)) ?_
   try simp only [bS, bA, thenQ, blockQ, noGotoQ]
   refine y2 _ ?_
   try clear y2 Y2
   refine AWp_cond rfl (fun hb16 => ?_) (fun hb16 => ?_)
   ·
    refine AWp_seqK fun Y2 y2 => ?_
    refine AWp_region ?_
    simp only [↓bO, go_sem, seval, hk, gM hp, Int.natCast_add, hw]
    refine y2 _ ?_
    try clear y2 Y2
    refine AWp_ret ?_
    try simp only [thenQ, blockQ, noGotoQ, retQ, aRes, tupOf, bS, bA]
    refine Le.of_eq (congrArg (fun n => AV.v (.int .i64 n)) ?_)
    first | (rw [idxI_some hp (by exact hb16) hs.2]; done) | (rw [idxI_none (fun i p hi h1 => hs.2 i p (by omega) h1)]; done)
   ·
    refine AWp_skip ?_
    try simp only [thenQ, blockQ, noGotoQ]
    refine y1 _ ?_
    try clear y1 Y1
    refine AWp_region ?_
    simp only [↓bO, go_sem, seval, hk, gM hp, Int.natCast_add, hw]
    refine ⟨(s + 1), ⟨by omega, fun i p' hi h1 => (by rcases Nat.lt_or_ge i s with h3 | h3 <;> first | exact hs.2 i p' h3 h1 | (obtain rfl : i = s := (by omega); rw [hp] at h1; cases h1; exact hb16))⟩, by omega, ?_⟩
    simp only [maskL, setsL, putsO, putO, mB, List.set_cons_zero, List.set_cons_succ, seval, hk, gM hp, Int.natCast_add, Int.natCast_one, hw]
    exact Weak.mk (by simp only [go_sem, Le.refl, Le.any, Le.slNil, Int.natCast_add, Int.cast_ofNat_Int, Int.natCast_one]) (fun _ _ h => h) rfl rfl
  ·
   have hk : s = ps.length := by have := hs.1; simp at hb9; omega
   refine AWp_exit ?_
   simp only [thenQ, blockQ, noGotoQ, bA, Nat.reduceEqDiff, ↓reduceIte]
   refine y0 _ ?_
   try clear y0 Y0
   refine AWp_seqK fun Y0 y0 => ?_
   refine AWp_region ?_
   simp only [↓bO, go_sem, seval]
   refine y0 _ ?_
   try clear y0 Y0
   refine AWp_ret ?_
   try simp only [thenQ, blockQ, noGotoQ, retQ, aRes, tupOf, bS, bA]
   refine Le.of_eq (congrArg (fun n => AV.v (.int .i64 n)) ?_)
   first | (rw [idxI_some hp (by exact hb16) hs.2]; done) | (rw [idxI_none (fun i p hi h1 => hs.2 i p (by omega) h1)]; done)
theorem ContainsFuncTy_pure (ps : List Ty) (g : Nat) (f : Ty → Bool) (hf : ∀ p ∈ ps, APure Tryd.prog g [.agg p.cells] (.v (.bool (f p)))) : APure Tryd.prog 60 [.sl 3 (ps.map Ty.cells), .clo g []] (.v (.bool (ps.any f))) := by
  refine APure.mkL (.cons (Ty.dataSl ps) (.cons (.clo (fun _ h => by cases h)) .nil)) (.v _) ?_
  refine ACalls_intro Tryd.func60 (by kernel_rfl) rfl (by rw [Tryd.ntmps60]; simp) (fun hm => ?_)
  simp only [Tryd.ntmps60, Tryd.results60, List.length_cons, List.length_nil, Nat.reduceAdd, Nat.reduceSub, List.replicate_succ, List.replicate_zero, List.cons_append, List.nil_append]
  refine AWp_seqK fun Y0 y0 => ?_
  refine AWp_region ?_
  simp only [↓bO, go_sem, seval, idxI_ge]
  refine y0 _ ?_
  try clear y0 Y0
  refine AWp_seqK fun Y0 y0 => ?_
  refine AWp_region ?_
  refine aops_chunk 2 fun Q0 q0 => ?_
  simp only [↓bO, go_sem, seval, idxI_ge]
  refine q0 _ ?_
  clear q0 Q0
  simp only [go_sem]
  refine aops_chunk 1 fun Q0 q0 => ?_
  simp only [↓bO, go_sem, seval, idxI_ge]
  refine APure.call (IndexFuncTy_pure ps g f hf) ?_
  try simp only [bS, bA, thenQ, blockQ, noGotoQ]
  refine q0 _ ?_
  clear q0 Q0
  simp only [go_sem]
  simp only [↓bO, go_sem, seval, idxI_ge]
  refine y0 _ ?_
  try clear y0 Y0
  refine AWp_ret ?_
  try simp only [thenQ, blockQ, noGotoQ, retQ, aRes, tupOf, bS, bA]
  exact Le.refl _
theorem Right1_pure {p : Ty} (h : APure Tryd.prog 32 [.agg p.cells] (.v (.bool p.right))) : APure Tryd.prog 61 [.agg p.cells] (.v (.bool (!p.right))) := by
  refine APure.mkL (.cons p.dataAgg .nil) (.v _) ?_
  refine ACalls_intro Tryd.func61 (by kernel_rfl) rfl (by rw [Tryd.ntmps61]; simp) (fun hm => ?_)
  simp only [Tryd.ntmps61, Tryd.results61, List.length_cons, List.length_nil, Nat.reduceAdd, Nat.reduceSub, List.replicate_succ, List.replicate_zero, List.cons_append, List.nil_append]
  refine AWp_seqK fun Y0 y0 => ?_
  refine AWp_region ?_
  simp only [↓bO, go_sem, seval]
  refine y0 _ ?_
  try clear y0 Y0
  refine AWp_seqK fun Y0 y0 => ?_
  refine AWp_region ?_
  refine aops_chunk 1 fun Q0 q0 => ?_
  simp only [↓bO, go_sem, seval]
  refine q0 _ ?_
  clear q0 Q0
  simp only [go_sem]
  refine aops_chunk 1 fun Q0 q0 => ?_
  simp only [↓bO, go_sem, seval]
  refine APure.call (h) ?_
  try simp only [bS, bA, thenQ, blockQ, noGotoQ]
  refine q0 _ ?_
  clear q0 Q0
  simp only [go_sem]
  simp only [↓bO, go_sem, seval]
  refine y0 _ ?_
  try clear y0 Y0
  refine AWp_ret ?_
  try simp only [thenQ, blockQ, noGotoQ, retQ, aRes, tupOf, bS, bA]
  exact Le.refl _
theorem Right_pure : ∀ (T : Ty), APure Tryd.prog 32 [.agg T.cells] (.v (.bool T.right)) := by
  refine Ty.ind fun T ih => ?_
  refine APure.mkL (.cons T.dataAgg .nil) (.v _) ?_
  refine ACalls_intro Tryd.func32 (by kernel_rfl) rfl (by rw [Tryd.ntmps32]; simp) (fun hm => ?_)
  simp only [Tryd.ntmps32, Tryd.results32, List.length_cons, List.length_nil, Nat.reduceAdd, Nat.reduceSub, List.replicate_succ, List.replicate_zero, List.cons_append, List.nil_append]
  refine AWp_seqK fun Y0 y0 => ?_
  refine AWp_region ?_
  simp only [↓bO, go_sem, seval]
  refine y0 _ ?_
  try clear y0 Y0
  refine AWp_seqK fun Y0 y0 => ?_
  refine AWp_region ?_
  refine aops_chunk 1 fun Q0 q0 => ?_
  simp only [↓bO, go_sem, seval]
  refine q0 _ ?_
  clear q0 Q0
  simp only [go_sem]
  refine aops_chunk 1 fun Q0 q0 => ?_
  simp only [↓bO, go_sem, seval]
  refine APure.call (plain_pure T) ?_
  try simp only [bS, bA, thenQ, blockQ, noGotoQ]
  refine q0 _ ?_
  clear q0 Q0
  simp only [go_sem]
  refine aops_chunk 1 fun Q0 q0 => ?_
  simp only [↓bO, go_sem, seval]
  refine q0 _ ?_
  clear q0 Q0
  simp only [go_sem]
  refine aops_case 5 rfl (fun hc5 => ?_) (fun hc5 => ?_)
  ·
   simp only [List.set_cons_zero, List.set_cons_succ]
   refine aops_chunk 2 fun Q0 q0 => ?_
   simp only [↓bO, go_sem, seval]
   refine q0 _ ?_
   clear q0 Q0
   simp only [go_sem]
   refine aops_chunk 1 fun Q0 q0 => ?_
   simp only [↓bO, go_sem, seval]
   refine APure.call (ContainsFuncTy_pure T.ps 61 (fun p => !p.right) (fun p hp => Right1_pure (ih p hp))) ?_
   try simp only [bS, bA, thenQ, blockQ, noGotoQ]
   refine q0 _ ?_
   clear q0 Q0
   simp only [go_sem]
   simp only [↓bO, go_sem, seval]
   refine y0 _ ?_
   try clear y0 Y0
   refine AWp_ret ?_
   try simp only [thenQ, blockQ, noGotoQ, retQ, aRes, tupOf, bS, bA]
   refine Le.of_eq (congrArg (fun b => AV.v (.bool b)) ?_)
   rw [Ty.right_eq]
   first | (simp only [hc5]; rfl) | (simp only [hc5, Bool.true_and]; simp [List.not_any_eq_all_not])
  ·
   simp only [List.set_cons_zero, List.set_cons_succ]
   refine aops_chunk 4 fun Q0 q0 => ?_
   simp only [↓bO, go_sem, seval]
   refine q0 _ ?_
   clear q0 Q0
   simp only [go_sem]
   simp only [↓bO, go_sem, seval]
   refine y0 _ ?_
   try clear y0 Y0
   refine AWp_ret ?_
   try simp only [thenQ, blockQ, noGotoQ, retQ, aRes, tupOf, bS, bA]
   refine Le.of_eq (congrArg (fun b => AV.v (.bool b)) ?_)
   rw [Ty.right_eq]
   first | (simp only [hc5]; rfl) | (simp only [hc5, Bool.true_and]; simp [List.not_any_eq_all_not])
mutual
/-- a type whose variables have other numbers -/
def Ty.mapV (f : Int → Int) : Ty → Ty
  | .mk k n ps => .mk k (if k = 1 then f n else n) (Ty.mapVL f ps)
def Ty.mapVL (f : Int → Int) : List Ty → List Ty
  | [] => []
  | p :: ps => Ty.mapV f p :: Ty.mapVL f ps
end
theorem Ty.mapVL_eq (f : Int → Int) : ∀ ps, Ty.mapVL f ps = ps.map (Ty.mapV f)
  | [] => by simp [Ty.mapVL]
  | p :: ps => by simp [Ty.mapVL, Ty.mapVL_eq f ps]
theorem Ty.mapV_eq (f : Int → Int) (t : Ty) : t.mapV f = .mk t.k (if t.k = 1 then f t.n else t.n) (t.ps.map (Ty.mapV f)) := by
  cases t; rw [Ty.mapV, Ty.mapVL_eq]; rfl
theorem Ty.eta (t : Ty) : Ty.mk t.k t.n t.ps = t := by cases t; rfl
theorem Ty.mapV_id : ∀ t : Ty, t.mapV (fun n => n) = t := by
  refine Ty.ind fun t ih => ?_
  rw [Ty.mapV_eq]
  have e : t.ps.map (Ty.mapV fun n => n) = t.ps := (List.map_congr_left ih).trans (List.map_id t.ps)
  rw [e]; simp [Ty.eta]
mutual
def Ty.cnt : Ty → Nat
  | .mk _ _ ps => 1 + Ty.cntL ps
def Ty.cntL : List Ty → Nat
  | [] => 0
  | p :: ps => Ty.cnt p + Ty.cntL ps
end
theorem Ty.cnt_eq (t : Ty) : t.cnt = 1 + Ty.cntL t.ps := by cases t; simp [Ty.cnt, Ty.ps]
theorem Ty.cntL_append : ∀ (ps qs : List Ty), Ty.cntL (ps ++ qs) = Ty.cntL ps + Ty.cntL qs
  | [], qs => by simp [Ty.cntL]
  | p :: ps, qs => by simp [Ty.cntL, Ty.cntL_append ps qs]; omega
theorem Ty.cntL_step {ps : List Ty} {s : Nat} {p : Ty} (hp : ps[s]? = some p) : Ty.cntL (ps.take s) + p.cnt ≤ Ty.cntL ps := by
  have h1 : Ty.cntL (ps.take (s + 1)) = Ty.cntL (ps.take s) + p.cnt := by rw [List.take_add_one, hp, Ty.cntL_append]; simp [Ty.cntL]
  have h2 : Ty.cntL ps = Ty.cntL (ps.take (s + 1)) + Ty.cntL (ps.drop (s + 1)) := by rw [← Ty.cntL_append, List.take_append_drop]
  omega
theorem Ty.cntL_len : ∀ ps, ps.length ≤ Ty.cntL ps
  | [] => by simp
  | p :: ps => by
    have := Ty.cntL_len ps
    have h2 : 1 ≤ p.cnt := by rw [Ty.cnt_eq]; omega
    simp [Ty.cntL]; omega
theorem take_map_step {α β : Type} (f : α → β) {ps : List α} {s : Nat} {p : α} (hp : ps[s]? = some p) : (ps.take (s + 1)).map f = (ps.take s).map f ++ [f p] := by
  rw [List.take_add_one, hp]; simp
theorem Ty.cnt_mem {p : Ty} : ∀ {ps : List Ty}, p ∈ ps → p.cnt ≤ Ty.cntL ps
  | q :: ps, h => by
    simp only [Ty.cntL]
    rcases List.mem_cons.1 h with rfl | h
    · omega
    · have := Ty.cnt_mem h; omega
theorem TVar_pure (n : Int) : APure Tryd.prog 29 [.v (.int .i64 n)] (.agg (Ty.mk 1 n []).cells) := by
  refine APure.mkL (.cons (.v _) .nil) ((Ty.dataAgg _)) ?_
  refine ACalls_intro Tryd.func29 (by kernel_rfl) rfl (by rw [Tryd.ntmps29]; simp) (fun hm => ?_)
  simp only [Tryd.ntmps29, Tryd.results29, List.length_cons, List.length_nil, Nat.reduceAdd, Nat.reduceSub, List.replicate_succ, List.replicate_zero, List.cons_append, List.nil_append]
  iterate 2 (refine AWp_seqK fun Y0 y0 => ?_; refine AWp_region ?_; simp only [↓bO, go_sem, seval]; refine y0 _ ?_; (try clear y0 Y0))
  refine AWp_ret ?_
  try simp only [thenQ, blockQ, noGotoQ, retQ, aRes, tupOf, bS, bA, aLoad, getO, pack, bL, Nat.reduceAdd, Nat.reduceLeDiff, Nat.reduceEqDiff, ↓reduceIte, ti25, tyX]
  refine Le.agg ?_
  rw [Ty.cells_eq]
  exact ⟨.refl _, .refl _, Le.slNil 3, trivial⟩
theorem change_pure : ∀ (T : Ty) (g : Nat) (caps : List AV) (φ : Int → Int) (hd : DataL caps) (hφ : ∀ n : Int, APure Tryd.prog g (.v (.int .i64 n) :: caps) (.v (.int .i64 (φ n)))) (hT : T.cnt ≤ 1099511627776), APure Tryd.prog 66 [.agg T.cells, .clo g caps] (.agg (T.mapV φ).cells) := by
  refine Ty.ind fun T ih => ?_
  intro g caps φ hd hφ hT
  refine APure.mkL (.cons T.dataAgg (.cons (.clo hd) .nil)) ((Ty.dataAgg _)) ?_
  refine ACalls_intro Tryd.func66 (by kernel_rfl) rfl (by rw [Tryd.ntmps66]; simp) (fun hm => ?_)
  simp only [Tryd.ntmps66, Tryd.results66, List.length_cons, List.length_nil, Nat.reduceAdd, Nat.reduceSub, List.replicate_succ, List.replicate_zero, List.cons_append, List.nil_append]
  have hm1 := hm.wide (t := T) (by simp)
  have hcn := T.cnt_eq
  have hcl := Ty.cntL_len T.ps
  simp only [Ty.cells_eq T, List.cons_append, List.nil_append]
  refine AWp_seqK fun Y0 y0 => ?_
  refine AWp_region ?_
  simp only [↓bO, go_sem, seval]
  refine y0 _ ?_
  try clear y0 Y0
  refine AWp_joinM (mB 33 22) ([]) ([(0, .cells 25 [.v (.int .i64 T.k), .v (.int .i64 (if T.k = 1 then φ T.n else T.n)), .sl 3 (T.ps.map Ty.cells)])]) ?_ ?_
  ·
   refine AWp_seqK fun Y0 y0 => ?_
   refine AWp_region ?_
   simp only [↓bO, go_sem, seval]
   refine y0 _ ?_
   try clear y0 Y0
   refine AWp_cond rfl (fun hb10 => ?_) (fun hb10 => ?_)
   ·
    refine AWp_region ?_
    refine aops_chunk 3 fun Q0 q0 => ?_
    simp only [↓bO, go_sem, seval]
    refine q0 _ ?_
    clear q0 Q0
    simp only [go_sem]
    refine aops_chunk 1 fun Q0 q0 => ?_
    simp only [↓bO, go_sem, seval]
    refine APure.call ((hφ T.n)) ?_
    try simp only [bS, bA, thenQ, blockQ, noGotoQ]
    refine q0 _ ?_
    clear q0 Q0
    simp only [go_sem]
    simp only [↓bO, go_sem, seval]
    try simp only [maskL, setsL, putsO, putO, mB, List.set_cons_zero, List.set_cons_succ, seval]
    first | rw [if_pos (by simpa using hb10)] | rw [if_neg (by simpa using hb10)]
    exact Weak.mk (by simp only [go_sem, Le.refl, Le.any]) (fun _ _ h => h) rfl rfl
   ·
    refine AWp_skip ?_
    try simp only [thenQ, blockQ, noGotoQ]
    try simp only [maskL, setsL, putsO, putO, mB, List.set_cons_zero, List.set_cons_succ, seval]
    first | rw [if_pos (by simpa using hb10)] | rw [if_neg (by simpa using hb10)]
    exact Weak.mk (by simp only [go_sem, Le.refl, Le.any]) (fun _ _ h => h) rfl rfl
  simp only [maskL, setsL, putsO, putO, mB, List.set_cons_zero, List.set_cons_succ, seval]
  refine AWp_seqK fun Y0 y0 => ?_
  refine AWp_region ?_
  simp only [↓bO, go_sem, seval]
  refine y0 _ ?_
  try clear y0 Y0
  refine AWp_seqK fun Y0 y0 => ?_
  refine AWp_seqK fun Y1 y1 => ?_
  refine AWp_region ?_
  simp only [↓bO, go_sem, seval]
  refine y1 _ ?_
  try clear y1 Y1
  refine AWp_block ?_
  refine AWp_weak (Weak.tokSlot 5 25 3 rfl) ?_
  simp only [List.set_cons_zero, List.set_cons_succ]
  refine AWp_loopM (σ := Nat) (mB 33 917558) (fun s => s ≤ T.ps.length) (fun s => [(5, .osl 2 3 (((T.ps.take s).map (Ty.mapV φ)).map Ty.cells)), (19, .v (.int .i64 (s : Int)))]) (fun s => [(2, .tok 25 3 s)]) (fun s => T.ps.length - s) 0 (by omega) ?_ (fun s hs => ?_)
  ·
   simp only [maskL, setsL, putsO, putO, mB, List.set_cons_zero, List.set_cons_succ, seval, bL]
   exact Weak.mk (by simp only [go_sem, Le.refl, Le.any, Le.slNil, Int.natCast_add, Int.cast_ofNat_Int, Int.natCast_one]) (fun _ _ h => h) rfl rfl
  simp only [maskL, setsL, putsO, putO, mB, List.set_cons_zero, List.set_cons_succ, seval]
  refine AWp_seqK fun Y1 y1 => ?_
  refine AWp_region ?_
  simp only [↓bO, go_sem, seval]
  refine y1 _ ?_
  try clear y1 Y1
  refine AWp_seqK fun Y1 y1 => ?_
  refine AWp_cond rfl (fun hb20 => ?_) (fun hb20 => ?_)
  ·
   have hk : s < T.ps.length := by simpa using hb20
   obtain ⟨p, hp⟩ : ∃ p, T.ps[s]? = some p := ⟨_, List.getElem?_eq_getElem hk⟩
   have hpm := Ty.cnt_mem (List.mem_of_getElem? hp)
   have hw : IntKind.i64.wrap ((s : Int) + 1) = (s : Int) + 1 := wrap_in (by omega) (by omega)
   have hln : (((T.ps.take s).map (Ty.mapV φ)).map Ty.cells).length = s := by simp; omega
   have hb1 : (s + 1) * 40 ≤ 140737488355328 := by omega
   have hb2 : s + 1 ≤ maxLen := by simp only [maxLen]; omega
   refine AWp_skip ?_
   try simp only [thenQ, blockQ, noGotoQ]
   refine y1 _ ?_
   try clear y1 Y1
   refine AWp_seqK fun Y1 y1 => ?_
   refine AWp_block ?_
   refine AWp_seqK fun Y2 y2 => ?_
   refine AWp_region ?_
   simp only [↓bO, go_sem, seval, hk, gM hp, Int.natCast_add, hw, hln, hb1, hb2, List.map_append, take_map_step (Ty.mapV φ) hp]
   refine y2 _ ?_
   try clear y2 Y2
   refine AWp_region ?_
   refine aops_chunk 3 fun Q0 q0 => ?_
   simp only [↓bO, go_sem, seval, hk, gM hp, Int.natCast_add, hw, hln, hb1, hb2, List.map_append, take_map_step (Ty.mapV φ) hp]
   refine q0 _ ?_
   clear q0 Q0
   simp only [go_sem]
   refine aops_chunk 1 fun Q0 q0 => ?_
   simp only [↓bO, go_sem, seval, hk, gM hp, Int.natCast_add, hw, hln, hb1, hb2, List.map_append, take_map_step (Ty.mapV φ) hp]
   refine APure.call (ih p (List.mem_of_getElem? hp) g caps φ hd hφ (by omega)) ?_
   try simp only [bS, bA, thenQ, blockQ, noGotoQ]
   refine q0 _ ?_
   clear q0 Q0
   simp only [go_sem]
   simp only [↓bO, go_sem, seval, ↓bs1_1, ↓bs1_2, ↓bs1_3, ↓bs1_4, ↓bs1_5, ↓bs1_6, ↓bs1_7, ↓bs1_8, ↓bs1_9, ↓bs1_10, ↓bs1_11, ↓bs1_12, hk, gM hp, Int.natCast_add, hw, hln, hb1, hb2, List.map_append, take_map_step (Ty.mapV φ) hp]
   refine y1 _ ?_
   try clear y1 Y1
   refine AWp_region ?_
   simp only [↓bO, go_sem, seval, hk, gM hp, Int.natCast_add, hw, hln, hb1, hb2, List.map_append, take_map_step (Ty.mapV φ) hp]
   refine ⟨(s + 1), (by omega), by omega, ?_⟩
   simp only [maskL, setsL, putsO, putO, mB, List.set_cons_zero, List.set_cons_succ, seval, hk, gM hp, Int.natCast_add, Int.natCast_one, hw, hln, hb1, hb2, List.map_append, bL, take_map_step (Ty.mapV φ) hp]
   first | (refine Weak.drops 1 3 rfl rfl (by simp only; omega) (by simp only; omega) ?_ ?_ ?_) | (refine Weak.drops 0 3 rfl rfl (by simp only; omega) (by simp only; omega) ?_ ?_ ?_)
   · simp only [go_sem, Le.refl, Le.any, Int.natCast_add, Int.cast_ofNat_Int, Int.natCast_one]
   · simp only [UndL, UndOs, Ob.Und, and_true, true_and, and_self, Und.v, Und.any, Und.ptr, Und.map, Nat.reduceLT, Nat.zero_lt_succ, Und.tys, Und.tyAgg, Und.oslTys, Und.oslTys1, Und.clo0, Und.ty, Und.data (n := 3) (Data.clo (f := g) hd)]
   · simp only [UndL, UndOs, Ob.Und, and_true, true_and, and_self, Und.v, Und.any, Und.ptr, Und.map, Nat.reduceLT, Nat.zero_lt_succ, Und.tys, Und.tyAgg, Und.oslTys, Und.oslTys1, Und.clo0, Und.ty, Und.data (n := 3) (Data.clo (f := g) hd)]
  ·
   have hk : s = T.ps.length := by simp at hb20; omega
   refine AWp_exit ?_
   simp only [thenQ, blockQ, noGotoQ, bA, Nat.reduceEqDiff, ↓reduceIte]
   iterate 2 (refine y0 _ ?_; (try clear y0 Y0); refine AWp_seqK fun Y0 y0 => ?_; refine AWp_region ?_; simp only [↓bO, go_sem, seval])
   refine y0 _ ?_
   try clear y0 Y0
   refine AWp_ret ?_
   try simp only [thenQ, blockQ, noGotoQ, retQ, aRes, tupOf, bS, bA, aLoad, getO, pack, bL, Nat.reduceAdd, Nat.reduceLeDiff, Nat.reduceEqDiff, ↓reduceIte, ti25, tyX]
   refine Le.agg ?_
   rw [Ty.mapV_eq, Ty.cells_eq, hk, List.take_length]
   exact ⟨.refl _, .refl _, Le.oslL, trivial⟩
theorem Copy1_pure (n : Int) : APure Tryd.prog 67 [.v (.int .i64 n)] (.v (.int .i64 n)) := by
  refine APure.mkL (.cons (.v _) .nil) (.v _) ?_
  refine ACalls_intro Tryd.func67 (by kernel_rfl) rfl (by rw [Tryd.ntmps67]; simp) (fun hm => ?_)
  simp only [Tryd.ntmps67, Tryd.results67, List.length_cons, List.length_nil, Nat.reduceAdd, Nat.reduceSub, List.replicate_succ, List.replicate_zero, List.cons_append, List.nil_append]
  iterate 2 (refine AWp_seqK fun Y0 y0 => ?_; refine AWp_region ?_; simp only [↓bO, go_sem, seval]; refine y0 _ ?_; (try clear y0 Y0))
  refine AWp_ret ?_
  try simp only [thenQ, blockQ, noGotoQ, retQ, aRes, tupOf, bS, bA]
  exact Le.refl _
theorem Copy_pure (T : Ty) (hT : T.cnt ≤ 1099511627776) : APure Tryd.prog 37 [.agg T.cells] (.agg T.cells) := by
  refine APure.mkL (.cons T.dataAgg .nil) (T.dataAgg) ?_
  refine ACalls_intro Tryd.func37 (by kernel_rfl) rfl (by rw [Tryd.ntmps37]; simp) (fun hm => ?_)
  simp only [Tryd.ntmps37, Tryd.results37, List.length_cons, List.length_nil, Nat.reduceAdd, Nat.reduceSub, List.replicate_succ, List.replicate_zero, List.cons_append, List.nil_append]
  simp only [Ty.cells_eq T, List.cons_append, List.nil_append]
  refine AWp_seqK fun Y0 y0 => ?_
  refine AWp_region ?_
  simp only [↓bO, go_sem, seval]
  refine y0 _ ?_
  try clear y0 Y0
  refine AWp_seqK fun Y0 y0 => ?_
  refine AWp_region ?_
  refine aops_chunk 1 fun Q0 q0 => ?_
  simp only [↓bO, go_sem, seval]
  refine q0 _ ?_
  clear q0 Q0
  simp only [go_sem]
  refine aops_chunk 1 fun Q0 q0 => ?_
  simp only [↓bO, go_sem, seval]
  refine APure.call (by have h9 := change_pure T 67 [] (fun n => n) (fun _ h => by cases h) (fun n => Copy1_pure n) hT; rw [Ty.mapV_id, Ty.cells_eq T] at h9; exact h9) ?_
  try simp only [bS, bA, thenQ, blockQ, noGotoQ]
  refine q0 _ ?_
  clear q0 Q0
  simp only [go_sem]
  simp only [↓bO, go_sem, seval]
  refine y0 _ ?_
  try clear y0 Y0
  refine AWp_ret ?_
  try simp only [thenQ, blockQ, noGotoQ, retQ, aRes, tupOf, bS, bA, aLoad, getO, pack, bL, Nat.reduceAdd, Nat.reduceLeDiff, Nat.reduceEqDiff, ↓reduceIte, ti25]
  exact Le.refl _
def arrowL : List Ty → Ty
  | [] => .mk 0 0 []
  | [t] => t
  | t :: ts => .mk 4 0 [t, arrowL ts]
theorem arrowL_nil {ps : List Ty} (h : ps.length = 0) : arrowL ps = .mk 0 0 [] := by rw [List.length_eq_zero_iff.1 h]; rfl
theorem arrowL_one {ps : List Ty} {p : Ty} (h : ps.length = 1) (hp : ps[0]? = some p) : arrowL ps = p := by
  match ps, h, hp with
  | [t], _, hp => simp at hp; rw [← hp]; rfl
theorem arrowL_more {ps : List Ty} {p : Ty} (h : 2 ≤ ps.length) (hp : ps[0]? = some p) : arrowL ps = .mk 4 0 [p, arrowL (ps.drop 1)] := by
  match ps, h, hp with
  | t :: u :: ts, _, hp => simp at hp; rw [← hp]; rfl
theorem Arrow_pure : ∀ (n : Nat) (ps : List Ty), ps.length = n → Ty.cntL ps ≤ 1099511627776 → APure Tryd.prog 28 [.sl 3 (ps.map Ty.cells)] (.agg (arrowL ps).cells) := by
  intro n
  induction n with
  | zero =>
    intro ps hn hc
    refine APure.mkL (.cons (Ty.dataSl ps) .nil) (Ty.dataAgg _) ?_
    have h0 : ((ps.length : Int) == 0) = true := by simp; exact List.length_eq_zero_iff.1 hn
    refine ACalls_intro Tryd.func28 (by kernel_rfl) rfl (by rw [Tryd.ntmps28]; simp) (fun hm => ?_)
    simp only [Tryd.ntmps28, Tryd.results28, List.length_cons, List.length_nil, Nat.reduceAdd, Nat.reduceSub, List.replicate_succ, List.replicate_zero, List.cons_append, List.nil_append]
    refine AWp_seqK fun Y0 y0 => ?_
    refine AWp_region ?_
    simp only [↓bO, go_sem, seval, h0]
    refine y0 _ ?_
    try clear y0 Y0
    refine AWp_seqK fun Y0 y0 => ?_
    refine AWp_seqK fun Y1 y1 => ?_
    refine AWp_region ?_
    simp only [↓bO, go_sem, seval, h0]
    refine y1 _ ?_
    try clear y1 Y1
    refine AWp_block ?_
    refine AWp_seqK fun Y1 y1 => ?_
    refine AWp_region ?_
    simp only [↓bO, go_sem, seval, h0]
    refine y1 _ ?_
    try clear y1 Y1
    refine AWp_cond rfl (fun hb5 => ?_) (fun hb5 => ?_)
    ·
     refine AWp_seqK fun Y1 y1 => ?_
     refine AWp_region ?_
     simp only [↓bO, go_sem, seval, h0]
     refine y1 _ ?_
     try clear y1 Y1
     refine AWp_ret ?_
     try simp only [thenQ, blockQ, noGotoQ, retQ, aRes, tupOf, bS, bA, aLoad, getO, pack, bL, Nat.reduceAdd, Nat.reduceLeDiff, Nat.reduceEqDiff, ↓reduceIte, ti25, h0]
     refine Le.agg ?_
     rw [arrowL_nil hn, Ty.cells_eq]
     exact ⟨.refl _, .refl _, Le.slNil 3, trivial⟩
    ·
     cases hb5
  | succ n ih =>
    intro ps hn hc
    refine APure.mkL (.cons (Ty.dataSl ps) .nil) (Ty.dataAgg _) ?_
    obtain ⟨p, hp⟩ : ∃ p, ps[0]? = some p := ⟨_, List.getElem?_eq_getElem (by omega)⟩
    have hpc := Ty.cnt_mem (List.mem_of_getElem? hp)
    have hlt : (0 : Int) < (ps.length : Int) := by omega
    have hle : (1 : Int) ≤ (ps.length : Int) := by omega
    have hdr : (ps.map Ty.cells).drop 1 = (ps.drop 1).map Ty.cells := by rw [List.map_drop]
    have hdc : Ty.cntL (ps.drop 1) ≤ Ty.cntL ps := by have h9 := Ty.cntL_append (ps.take 1) (ps.drop 1); rw [List.take_append_drop] at h9; omega
    refine ACalls_intro Tryd.func28 (by kernel_rfl) rfl (by rw [Tryd.ntmps28]; simp) (fun hm => ?_)
    simp only [Tryd.ntmps28, Tryd.results28, List.length_cons, List.length_nil, Nat.reduceAdd, Nat.reduceSub, List.replicate_succ, List.replicate_zero, List.cons_append, List.nil_append]
    refine AWp_seqK fun Y0 y0 => ?_
    refine AWp_region ?_
    simp only [↓bO, go_sem, seval, hlt, hle, hdr, gM hp]
    refine y0 _ ?_
    try clear y0 Y0
    refine AWp_seqK fun Y0 y0 => ?_
    refine AWp_seqK fun Y1 y1 => ?_
    refine AWp_region ?_
    simp only [↓bO, go_sem, seval, hlt, hle, hdr, gM hp]
    refine y1 _ ?_
    try clear y1 Y1
    refine AWp_block ?_
    refine AWp_seqK fun Y1 y1 => ?_
    refine AWp_region ?_
    simp only [↓bO, go_sem, seval, hlt, hle, hdr, gM hp]
    refine y1 _ ?_
    try clear y1 Y1
    refine AWp_cond rfl (fun hb5 => ?_) (fun hb5 => ?_)
    ·
     exact absurd hb5 (by simp only [AV.v.injEq, Value.bool.injEq, beq_iff_eq]; omega)
    ·
     refine AWp_seqK fun Y1 y1 => ?_
     refine AWp_region ?_
     simp only [↓bO, go_sem, seval, hlt, hle, hdr, gM hp]
     refine y1 _ ?_
     try clear y1 Y1
     refine AWp_cond rfl (fun hb8 => ?_) (fun hb8 => ?_)
     ·
      have h1 : ps.length = 1 := by simp at hb8; omega
      refine AWp_seqK fun Y1 y1 => ?_
      refine AWp_region ?_
      refine aops_chunk 3 fun Q0 q0 => ?_
      simp only [↓bO, go_sem, seval, hlt, hle, hdr, gM hp]
      refine q0 _ ?_
      clear q0 Q0
      simp only [go_sem]
      refine aops_chunk 1 fun Q0 q0 => ?_
      simp only [↓bO, go_sem, seval, hlt, hle, hdr, gM hp]
      refine APure.call (Copy_pure p (by omega)) ?_
      try simp only [bS, bA, thenQ, blockQ, noGotoQ]
      refine q0 _ ?_
      clear q0 Q0
      simp only [go_sem]
      simp only [↓bO, go_sem, seval, hlt, hle, hdr, gM hp]
      refine y1 _ ?_
      try clear y1 Y1
      refine AWp_ret ?_
      try simp only [thenQ, blockQ, noGotoQ, retQ, aRes, tupOf, bS, bA, aLoad, getO, pack, bL, Nat.reduceAdd, Nat.reduceLeDiff, Nat.reduceEqDiff, ↓reduceIte, ti25, tyX, hlt, hle, hdr, gM hp]
      refine Le.agg ?_
      first | (rw [arrowL_one h1 hp]; exact LeL.refl _) | (rw [arrowL_more h1 hp, Ty.cells]; exact ⟨.refl _, .refl _, Le.of_eq (by simp [Ty.cellsL]), trivial⟩)
     ·
      have h1 : 2 ≤ ps.length := by simp at hb8; omega
      refine AWp_skip ?_
      try simp only [thenQ, blockQ, noGotoQ]
      refine y0 _ ?_
      try clear y0 Y0
      refine AWp_seqK fun Y0 y0 => ?_
      refine AWp_drawK 9 mixed (by kernel_rfl) fun J0 j0 => ?_
      simp only [go_sem]
      refine dRun_chunk 3 fun Q0 q0 => ?_
      simp only [↓dRun, ↓dOp, ↓bO, go_sem, seval, hlt, hle, hdr, gM hp]
      refine q0 _ ?_
      clear q0 Q0
      simp only [go_sem]
      refine dRun_chunk 1 fun Q0 q0 => ?_
      simp only [↓dRun, ↓dOp, ↓bO, go_sem, seval, hlt, hle, hdr, gM hp]
      refine ⟨_, Copy_pure p (by omega), ?_⟩
      try simp only [bS, bA, thenQ, blockQ, noGotoQ]
      refine q0 _ ?_
      clear q0 Q0
      simp only [go_sem]
      refine dRun_chunk 2 fun Q0 q0 => ?_
      simp only [↓dRun, ↓dOp, ↓bO, go_sem, seval, hlt, hle, hdr, gM hp]
      refine q0 _ ?_
      clear q0 Q0
      simp only [go_sem]
      refine dRun_chunk 1 fun Q0 q0 => ?_
      simp only [↓dRun, ↓dOp, ↓bO, go_sem, seval, hlt, hle, hdr, gM hp]
      refine ⟨_, ih (ps.drop 1) (by simp; omega) (by omega), ?_⟩
      try simp only [bS, bA, thenQ, blockQ, noGotoQ]
      refine q0 _ ?_
      clear q0 Q0
      simp only [go_sem]
      simp only [↓dRun, ↓dOp, ↓bO, go_sem, seval, ↓bs2_1, ↓bs2_2, ↓bs2_3, ↓bs2_4, ↓bs2_5, ↓bs2_6, ↓bs2_7, ↓bs2_8, ↓bs2_9, ↓bs2_10, ↓bs2_11, ↓bs2_12, hlt, hle, hdr, gM hp]
      refine j0 _ ?_
      clear j0 J0
      simp only [go_sem]
      simp only [↓bO, go_sem, seval, hlt, hle, hdr, gM hp]
      refine y0 _ ?_
      try clear y0 Y0
      refine AWp_ret ?_
      try simp only [thenQ, blockQ, noGotoQ, retQ, aRes, tupOf, bS, bA, aLoad, getO, pack, bL, Nat.reduceAdd, Nat.reduceLeDiff, Nat.reduceEqDiff, ↓reduceIte, ti25, tyX, hlt, hle, hdr, gM hp]
      refine Le.agg ?_
      first | (rw [arrowL_one h1 hp]; exact LeL.refl _) | (rw [arrowL_more h1 hp, Ty.cells]; exact ⟨.refl _, .refl _, Le.of_eq (by simp [Ty.cellsL]), trivial⟩)
mutual
def Ty.room : Ty → Int → Nat → Int
  | .mk _ _ _, _, 0 => -1
  | .mk _ _ ps, n, d + 1 => Ty.roomL ps (n - 1) d
def Ty.roomL : List Ty → Int → Nat → Int
  | [], n, _ => n
  | p :: ps, n, d => if n < 0 then n else Ty.roomL ps (Ty.room p n d) d
end
theorem Ty.room_zero (t : Ty) (n : Int) : t.room n 0 = -1 := by cases t; simp [Ty.room]
theorem Ty.room_succ (t : Ty) (n : Int) (d : Nat) : t.room n (d + 1) = Ty.roomL t.ps (n - 1) d := by cases t; simp [Ty.room, Ty.ps]
theorem Ty.roomL_neg : ∀ (ps : List Ty) {n : Int} {d : Nat}, n < 0 → Ty.roomL ps n d = n
  | [], n, d, h => by simp [Ty.roomL]
  | p :: ps, n, d, h => by simp [Ty.roomL, h]
theorem Ty.roomL_append : ∀ (xs bs : List Ty) (n : Int) (d : Nat), Ty.roomL (xs ++ bs) n d = Ty.roomL bs (Ty.roomL xs n d) d
  | [], bs, n, d => by simp [Ty.roomL]
  | x :: xs, bs, n, d => by
    simp only [List.cons_append, Ty.roomL]
    split
    · rename_i h; rw [Ty.roomL_neg bs h]
    · exact Ty.roomL_append xs bs _ d
theorem Ty.room_le : ∀ (t : Ty) (n : Int) (d : Nat), 0 ≤ n → -1 ≤ t.room n d ∧ t.room n d ≤ n - 1 := by
  refine Ty.ind fun t ih => ?_
  have key : ∀ (ps : List Ty), (∀ p ∈ ps, ∀ (n : Int) (d : Nat), 0 ≤ n → -1 ≤ p.room n d ∧ p.room n d ≤ n - 1) → ∀ (n : Int) (d : Nat), -1 ≤ n → -1 ≤ Ty.roomL ps n d ∧ Ty.roomL ps n d ≤ n := by
    intro ps
    induction ps with
    | nil => intro _ n d h; simp [Ty.roomL]; exact h
    | cons p ps ihp =>
      intro hp n d h
      simp only [Ty.roomL]
      split
      · omega
      · have h1 := hp p (by simp) n d (by omega)
        have h2 := ihp (fun q hq => hp q (by simp [hq])) (p.room n d) d h1.1
        omega
  intro n d h
  cases d with
  | zero => rw [Ty.room_zero]; omega
  | succ d =>
    rw [Ty.room_succ]
    have := key t.ps ih (n - 1) d (by omega)
    omega
theorem Ty.roomL_le (ps : List Ty) (n : Int) (d : Nat) (h : -1 ≤ n) : -1 ≤ Ty.roomL ps n d ∧ Ty.roomL ps n d ≤ n := by
  have := Ty.room_le (.mk 0 0 ps) (n + 1) (d + 1) (by omega)
  rw [Ty.room_succ] at this
  simp only [Ty.ps] at this
  rw [show n + 1 - 1 = n by omega] at this
  exact this
theorem Ty.roomL_step {ps : List Ty} {s : Nat} {p : Ty} (hp : ps[s]? = some p) (n : Int) (d : Nat) (h : 0 ≤ Ty.roomL (ps.take s) n d) : Ty.roomL (ps.take (s + 1)) n d = p.room (Ty.roomL (ps.take s) n d) d := by
  rw [List.take_add_one, hp, Ty.roomL_append]
  simp only [Option.toList_some, Ty.roomL]
  rw [if_neg (by omega)]
theorem Ty.roomL_stop (ps : List Ty) (s : Nat) (n : Int) (d : Nat) (h : Ty.roomL (ps.take s) n d < 0) : Ty.roomL ps n d = Ty.roomL (ps.take s) n d := by
  conv => lhs; rw [← List.take_append_drop s ps]
  rw [Ty.roomL_append, Ty.roomL_neg _ h]
theorem room_pure : ∀ (T : Ty) (n : Int) (d : Nat) (hn : 0 ≤ n) (hn2 : n ≤ 1099511627776) (hd : d ≤ 1099511627776), APure Tryd.prog 31 [.agg T.cells, .v (.int .i64 n), .v (.int .i64 d)] (.v (.int .i64 (T.room n d))) := by
  refine Ty.ind fun T ih => ?_
  intro n d hn hn2 hd
  refine APure.mkL (.cons T.dataAgg (.cons (.v _) (.cons (.v _) .nil))) (.v _) ?_
  refine ACalls_intro Tryd.func31 (by kernel_rfl) rfl (by rw [Tryd.ntmps31]; simp) (fun hm => ?_)
  simp only [Tryd.ntmps31, Tryd.results31, List.length_cons, List.length_nil, Nat.reduceAdd, Nat.reduceSub, List.replicate_succ, List.replicate_zero, List.cons_append, List.nil_append]
  have hm1 := hm.wide (t := T) (by simp)
  have hw1 : IntKind.i64.wrap (n - 1) = n - 1 := wrap_in (by omega) (by omega)
  iterate 2 (refine AWp_seqK fun Y0 y0 => ?_; refine AWp_region ?_; simp only [↓bO, go_sem, seval, hw1]; refine y0 _ ?_; (try clear y0 Y0))
  refine AWp_seqK fun Y0 y0 => ?_
  refine AWp_seqK fun Y1 y1 => ?_
  refine AWp_region ?_
  simp only [↓bO, go_sem, seval, hw1]
  refine y1 _ ?_
  try clear y1 Y1
  refine AWp_cond rfl (fun hb11 => ?_) (fun hb11 => ?_)
  ·
   have hd0 : d = 0 := by simpa using hb11
   refine AWp_seqK fun Y1 y1 => ?_
   refine AWp_region ?_
   simp only [↓bO, go_sem, seval, hw1]
   refine y1 _ ?_
   try clear y1 Y1
   refine AWp_ret ?_
   try simp only [thenQ, blockQ, noGotoQ, retQ, aRes, tupOf, bS, bA]
   refine Le.of_eq (congrArg (fun n => AV.v (.int .i64 n)) ?_)
   first | (rw [hd0, Ty.room_zero]; done) | skip
   all_goals (rw [Ty.room_succ]; simp only [decide_eq_false_iff_not] at hb20; rcases Nat.lt_or_ge s T.ps.length with h5 | h5 <;> first | (rw [List.take_of_length_le h5]; done) | (rw [Ty.roomL_stop T.ps s _ _ (by omega)]; done))
  ·
   obtain ⟨e, rfl⟩ : ∃ e, d = e + 1 := ⟨d - 1, by simp at hb11; omega⟩
   have hw2 : IntKind.i64.wrap ((e : Int) + 1 - 1) = (e : Int) := by rw [wrap_in (by omega) (by omega)]; omega
   refine AWp_skip ?_
   try simp only [thenQ, blockQ, noGotoQ]
   refine y0 _ ?_
   try clear y0 Y0
   refine AWp_seqK fun Y0 y0 => ?_
   refine AWp_seqK fun Y1 y1 => ?_
   refine AWp_region ?_
   simp only [↓bO, go_sem, seval, hw1]
   refine y1 _ ?_
   try clear y1 Y1
   refine AWp_block ?_
   refine AWp_loopM (σ := Nat) (mB 33 142) (fun s => s ≤ T.ps.length) (fun s => [(1, .v (.int .i64 (Ty.roomL (T.ps.take s) (n - 1) e))), (7, .v (.int .i64 (s : Int)))]) (fun s => []) (fun s => T.ps.length - s) 0 (by omega) ?_ (fun s hs => ?_)
   ·
    simp only [maskL, setsL, putsO, putO, mB, List.set_cons_zero, List.set_cons_succ, seval, bL, Ty.roomL]
    exact Weak.mk (by simp only [go_sem, Le.refl, Le.any, Le.slNil, Int.natCast_add, Int.cast_ofNat_Int, Int.natCast_one]) (fun _ _ h => h) rfl rfl
   simp only [maskL, setsL, putsO, putO, mB, List.set_cons_zero, List.set_cons_succ, seval]
   refine AWp_seqK fun Y1 y1 => ?_
   refine AWp_joinM (mB 33 1048718) ([(20, .v (.bool (decide (s < T.ps.length ∧ 0 ≤ Ty.roomL (T.ps.take s) (n - 1) e))))]) ([]) ?_ ?_
   ·
    refine AWp_region ?_
    refine aops_chunk 4 fun Q0 q0 => ?_
    simp only [↓bO, go_sem, seval, hw1]
    refine q0 _ ?_
    clear q0 Q0
    simp only [go_sem]
    refine aops_chunk 2 fun Q0 q0 => ?_
    simp only [↓bO, go_sem, seval, hw1]
    refine q0 _ ?_
    clear q0 Q0
    simp only [go_sem]
    refine aops_case 17 rfl (fun hc17 => ?_) (fun hc17 => ?_)
    ·
     simp only [List.set_cons_zero, List.set_cons_succ]
     simp only [↓bO, go_sem, seval, hw1]
     try simp only [maskL, setsL, putsO, putO, mB, List.set_cons_zero, List.set_cons_succ, seval]
     refine Weak.mk ?_ (fun _ _ h => h) rfl rfl
     simp only [go_sem, Le.refl, Le.any]
     all_goals (refine Le.of_eq (congrArg (fun b => AV.v (.bool b)) ?_); rw [Bool.eq_iff_iff]; simp only [decide_eq_true_eq, decide_eq_false_iff_not, ge_iff_le, Bool.false_eq_true, false_iff, Int.ofNat_lt] at *; omega)
    ·
     simp only [List.set_cons_zero, List.set_cons_succ]
     simp only [↓bO, go_sem, seval, hw1]
     try simp only [maskL, setsL, putsO, putO, mB, List.set_cons_zero, List.set_cons_succ, seval]
     refine Weak.mk ?_ (fun _ _ h => h) rfl rfl
     simp only [go_sem, Le.refl, Le.any]
     all_goals (refine Le.of_eq (congrArg (fun b => AV.v (.bool b)) ?_); rw [Bool.eq_iff_iff]; simp only [decide_eq_true_eq, decide_eq_false_iff_not, ge_iff_le, Bool.false_eq_true, false_iff, Int.ofNat_lt] at *; omega)
   simp only [maskL, setsL, putsO, putO, mB, List.set_cons_zero, List.set_cons_succ, seval]
   refine AWp_cond rfl (fun hb20 => ?_) (fun hb20 => ?_)
   ·
    have hk : s < T.ps.length := by simp only [decide_eq_true_eq] at hb20; exact hb20.1
    obtain ⟨p, hp⟩ : ∃ p, T.ps[s]? = some p := ⟨_, List.getElem?_eq_getElem hk⟩
    have hw : IntKind.i64.wrap ((s : Int) + 1) = (s : Int) + 1 := wrap_in (by omega) (by have := hm1.len; simp only [maxLen] at this; omega)
    have hrm : 0 ≤ Ty.roomL (T.ps.take s) (n - 1) e := by simp only [decide_eq_true_eq] at hb20; exact hb20.2
    have hrl := Ty.roomL_le (T.ps.take s) (n - 1) e (by omega)
    refine AWp_skip ?_
    try simp only [thenQ, blockQ, noGotoQ]
    refine y1 _ ?_
    try clear y1 Y1
    refine AWp_seqK fun Y1 y1 => ?_
    refine AWp_block ?_
    refine AWp_region ?_
    iterate 2 (refine aops_chunk 4 fun Q0 q0 => ?_; simp only [↓bO, go_sem, seval, hw1, hk, gM hp, Int.natCast_add, hw, Ty.roomL_step hp (n - 1) e hrm, hw2]; refine q0 _ ?_; clear q0 Q0; simp only [go_sem])
    refine aops_chunk 1 fun Q0 q0 => ?_
    simp only [↓bO, go_sem, seval, hw1, hk, gM hp, Int.natCast_add, hw, Ty.roomL_step hp (n - 1) e hrm, hw2]
    refine APure.call (ih p (List.mem_of_getElem? hp) _ e hrm (by omega) (by omega)) ?_
    try simp only [bS, bA, thenQ, blockQ, noGotoQ]
    refine q0 _ ?_
    clear q0 Q0
    simp only [go_sem]
    simp only [↓bO, go_sem, seval, hw1, hk, gM hp, Int.natCast_add, hw, Ty.roomL_step hp (n - 1) e hrm, hw2]
    refine y1 _ ?_
    try clear y1 Y1
    refine AWp_region ?_
    simp only [↓bO, go_sem, seval, hw1, hk, gM hp, Int.natCast_add, hw, Ty.roomL_step hp (n - 1) e hrm, hw2]
    refine ⟨(s + 1), (by omega), by omega, ?_⟩
    simp only [maskL, setsL, putsO, putO, mB, List.set_cons_zero, List.set_cons_succ, seval, hk, gM hp, Int.natCast_add, Int.natCast_one, hw, Ty.roomL_step hp (n - 1) e hrm, hw2]
    exact Weak.mk (by simp only [go_sem, Le.refl, Le.any, Le.slNil, Int.natCast_add, Int.cast_ofNat_Int, Int.natCast_one]) (fun _ _ h => h) rfl rfl
   ·
    refine AWp_exit ?_
    simp only [thenQ, blockQ, noGotoQ, bA, Nat.reduceEqDiff, ↓reduceIte]
    refine y0 _ ?_
    try clear y0 Y0
    refine AWp_seqK fun Y0 y0 => ?_
    refine AWp_region ?_
    simp only [↓bO, go_sem, seval, hw1]
    refine y0 _ ?_
    try clear y0 Y0
    refine AWp_ret ?_
    try simp only [thenQ, blockQ, noGotoQ, retQ, aRes, tupOf, bS, bA]
    refine Le.of_eq (congrArg (fun n => AV.v (.int .i64 n)) ?_)
    first | (rw [hd0, Ty.room_zero]; done) | skip
    all_goals (rw [Ty.room_succ]; simp only [decide_eq_false_iff_not] at hb20; rcases Nat.lt_or_ge s T.ps.length with h5 | h5 <;> first | (rw [List.take_of_length_le h5]; done) | (rw [Ty.roomL_stop T.ps s _ _ (by omega)]; done))
abbrev intC (x : Int) : List AV := [.v (.int .i64 x)]
theorem dataInts (l : List Int) : Data (.sl 1 (l.map intC)) := .sl fun x hx => by
  obtain ⟨y, _, rfl⟩ := List.mem_map.1 hx
  exact .cons (.v _) .nil
structure RNode where
  t : Ty
  parts : List Int
def RNode.cells (r : RNode) : List AV := [.v (.int .i64 r.t.k), .v (.int .i64 r.t.n), .sl 3 (r.t.ps.map Ty.cells), .sl 1 (r.parts.map intC)]
def eqLF {α : Type} (f : α → α → Bool) : List α → List α → Bool
  | [], [] => true
  | p :: ps, q :: qs => f p q && eqLF f ps qs
  | _, _ => false
theorem eqLF_len {α : Type} {f : α → α → Bool} : ∀ {ps qs : List α}, ps.length ≠ qs.length → eqLF f ps qs = false
  | [], [], h => by simp at h
  | [], _ :: _, _ => rfl
  | _ :: _, [], _ => rfl
  | p :: ps, q :: qs, h => by simp only [eqLF]; rw [eqLF_len (by simpa using h)]; simp
theorem eqLF_false {α : Type} {f : α → α → Bool} : ∀ {ps qs : List α} {k : Nat} {p q : α}, ps[k]? = some p → qs[k]? = some q → f p q = false → eqLF f ps qs = false
  | [], _, k, p, q, h, _, _ => by simp at h
  | _ :: _, [], k, p, q, _, h, _ => by simp at h
  | a :: ps, b :: qs, 0, p, q, h1, h2, hf => by simp at h1 h2; subst h1; subst h2; simp [eqLF, hf]
  | a :: ps, b :: qs, k + 1, p, q, h1, h2, hf => by simp only [eqLF]; rw [eqLF_false (k := k) (by simpa using h1) (by simpa using h2) hf]; simp
theorem eqLF_true {α : Type} {f : α → α → Bool} : ∀ {ps qs : List α}, ps.length = qs.length → (∀ (k : Nat) (p q : α), ps[k]? = some p → qs[k]? = some q → f p q = true) → eqLF f ps qs = true
  | [], [], _, _ => rfl
  | [], _ :: _, h, _ => by simp at h
  | _ :: _, [], h, _ => by simp at h
  | a :: ps, b :: qs, h, hf => by
    simp only [eqLF]
    rw [hf 0 a b rfl rfl, eqLF_true (by simpa using h) fun k p q hp hq => hf (k + 1) p q (by simpa using hp) (by simpa using hq)]; rfl
theorem sameL_eqF : ∀ ps qs : List Ty, Ty.sameL ps qs = eqLF Ty.same ps qs
  | [], [] => by simp [Ty.sameL, eqLF]
  | [], _ :: _ => by simp [Ty.sameL, eqLF]
  | _ :: _, [] => by simp [Ty.sameL, eqLF]
  | p :: ps, q :: qs => by simp [Ty.sameL, eqLF, sameL_eqF ps qs]
def addV (l : List Int) (n : Int) : List Int := if l.any (fun x => x == n) then l else l ++ [n]
mutual
def Ty.rvars : Ty → List Int → List Int
  | .mk k n ps, l => Ty.rvarsL ps (if k = 1 then addV l n else l)
def Ty.rvarsL : List Ty → List Int → List Int
  | [], l => l
  | p :: ps, l => Ty.rvarsL ps (Ty.rvars p l)
end
theorem Ty.rvars_eq (t : Ty) (l : List Int) : t.rvars l = Ty.rvarsL t.ps (if t.k = 1 then addV l t.n else l) := by cases t; rw [Ty.rvars]; rfl
theorem Ty.rvarsL_append : ∀ (ps qs : List Ty) (l : List Int), Ty.rvarsL (ps ++ qs) l = Ty.rvarsL qs (Ty.rvarsL ps l)
  | [], qs, l => by simp [Ty.rvarsL]
  | p :: ps, qs, l => by simp [Ty.rvarsL, Ty.rvarsL_append ps qs]
theorem Ty.rvarsL_step {ps : List Ty} {s : Nat} {p : Ty} (hp : ps[s]? = some p) (l : List Int) : Ty.rvarsL (ps.take (s + 1)) l = p.rvars (Ty.rvarsL (ps.take s) l) := by
  rw [List.take_add_one, hp, Ty.rvarsL_append]; simp [Ty.rvarsL]
theorem addV_cases (k n : Int) (l : List Int) : (k = 1 → (l.any fun x => x == n) = false → (if k = 1 then addV l n else l) = l ++ [n]) ∧ ((l.any fun x => x == n) = true → (if k = 1 then addV l n else l) = l) ∧ (¬ k = 1 → (if k = 1 then addV l n else l) = l) := by
  refine ⟨fun h1 h2 => ?_, fun h1 => ?_, fun h1 => ?_⟩
  · rw [if_pos h1, addV, if_neg (by rw [h2]; simp)]
  · split
    · rw [addV, if_pos h1]
    · rfl
  · rw [if_neg h1]
theorem addV_len (l : List Int) (n : Int) : (addV l n).length ≤ l.length + 1 := by unfold addV; split <;> simp
theorem Ty.rvars_len : ∀ (t : Ty) (l : List Int), (t.rvars l).length ≤ l.length + t.cnt := by
  refine Ty.ind fun t ih => ?_
  have key : ∀ ps : List Ty, (∀ p ∈ ps, ∀ l : List Int, (p.rvars l).length ≤ l.length + p.cnt) → ∀ l : List Int, (Ty.rvarsL ps l).length ≤ l.length + Ty.cntL ps := by
    intro ps
    induction ps with
    | nil => intro _ l; simp [Ty.rvarsL, Ty.cntL]
    | cons p ps ihp =>
      intro hp l
      have h1 := hp p (by simp) l
      have h2 := ihp (fun q hq => hp q (by simp [hq])) (p.rvars l)
      simp only [Ty.rvarsL, Ty.cntL]; omega
  intro l
  rw [Ty.rvars_eq, Ty.cnt_eq]
  have := key t.ps ih (if t.k = 1 then addV l t.n else l)
  have h2 : (if t.k = 1 then addV l t.n else l).length ≤ l.length + 1 := by split <;> first | exact addV_len l t.n | omega
  omega
theorem Ty.rvarsL_len (ps : List Ty) (l : List Int) : (Ty.rvarsL ps l).length ≤ l.length + Ty.cntL ps := by
  have := Ty.rvars_len (.mk 0 0 ps) l
  rw [Ty.rvars_eq, Ty.cnt_eq] at this
  induction ps generalizing l with
  | nil => simp [Ty.rvarsL, Ty.cntL]
  | cons p ps ih =>
    have h1 := p.rvars_len l
    have h2 := ih (p.rvars l) (by have := Ty.rvars_len (.mk 0 0 ps) (p.rvars l); rw [Ty.rvars_eq, Ty.cnt_eq] at this; exact this)
    simp only [Ty.rvarsL, Ty.cntL]; omega
structure Bd where
  v : Int
  t : Ty
def Bd.cells (b : Bd) : List AV := .v (.int .i64 b.v) :: b.t.cells
theorem Bd.cells_eq (b : Bd) : b.cells = [.v (.int .i64 b.v), .v (.int .i64 b.t.k), .v (.int .i64 b.t.n), .sl 3 (b.t.ps.map Ty.cells)] := by rw [Bd.cells, Ty.cells_eq]
theorem Bd.cells_len (b : Bd) : b.cells.length = 4 := by rw [b.cells_eq]; rfl
theorem Bd.data (b : Bd) : DataL b.cells := .cons (.v _) b.t.data
theorem Bd.dataSl (l : List Bd) : Data (.sl 4 (l.map Bd.cells)) := .sl fun x hx => by
  obtain ⟨y, _, rfl⟩ := List.mem_map.1 hx
  exact y.data
theorem Bd.take1 (b : Bd) : b.cells.take 1 = [.v (.int .i64 b.v)] := by rw [b.cells_eq]; rfl
theorem Bd.drop1 (b : Bd) : b.cells.drop 1 = b.t.cells := rfl
theorem Bd.one (b : Bd) : b.cells.all AV.one = true := by rw [b.cells_eq]; rfl
def bfind (l : List Bd) (n : Int) : Int := idxI (fun b => b.v == n) l
mutual
/-- what a substitution makes of a type -/
def Ty.sub (l : List Bd) : Ty → Ty
  | .mk k n ps => if k = 1 ∧ 0 ≤ bfind l n then ((l[(bfind l n).toNat]?).map Bd.t).getD (.mk 0 0 []) else .mk k n (Ty.subL l ps)
def Ty.subL (l : List Bd) : List Ty → List Ty
  | [] => []
  | p :: ps => Ty.sub l p :: Ty.subL l ps
end
theorem Ty.subL_eq (l : List Bd) : ∀ ps, Ty.subL l ps = ps.map (Ty.sub l)
  | [] => by simp [Ty.subL]
  | p :: ps => by simp [Ty.subL, Ty.subL_eq l ps]
theorem Ty.sub_no {l : List Bd} {t : Ty} (h : ¬ (t.k = 1 ∧ 0 ≤ bfind l t.n)) : t.sub l = .mk t.k t.n (t.ps.map (Ty.sub l)) := by
  obtain ⟨k, n, ps⟩ := t
  have h : ¬ (k = 1 ∧ 0 ≤ bfind l n) := h
  rw [Ty.sub, if_neg h, Ty.subL_eq]; rfl
theorem EqualFuncTy_pure (ps qs : List Ty) (g : Nat) (f : Ty → Ty → Bool) (hf : ∀ p ∈ ps, ∀ q, APure Tryd.prog g [.agg p.cells, .agg q.cells] (.v (.bool (f p q)))) : APure Tryd.prog 75 [.sl 3 (ps.map Ty.cells), .sl 3 (qs.map Ty.cells), .clo g []] (.v (.bool (eqLF f ps qs))) := by
  refine APure.mkL (.cons (Ty.dataSl ps) (.cons (Ty.dataSl qs) (.cons (.clo (fun _ h => by cases h)) .nil))) (.v _) ?_
  refine ACalls_intro Tryd.func75 (by kernel_rfl) rfl (by rw [Tryd.ntmps75]; simp) (fun hm => ?_)
  simp only [Tryd.ntmps75, Tryd.results75, List.length_cons, List.length_nil, Nat.reduceAdd, Nat.reduceSub, List.replicate_succ, List.replicate_zero, List.cons_append, List.nil_append]
  have hm1 := hm.len (sz := 3) (xs := ps.map Ty.cells) (by simp)
  rw [List.length_map] at hm1
  refine AWp_seqK fun Y0 y0 => ?_
  refine AWp_region ?_
  simp only [↓bO, go_sem, seval]
  refine y0 _ ?_
  try clear y0 Y0
  refine AWp_seqK fun Y0 y0 => ?_
  refine AWp_seqK fun Y1 y1 => ?_
  refine AWp_region ?_
  refine aops_chunk 4 fun Q0 q0 => ?_
  simp only [↓bO, go_sem, seval]
  refine q0 _ ?_
  clear q0 Q0
  simp only [go_sem]
  simp only [↓bO, go_sem, seval]
  refine y1 _ ?_
  try clear y1 Y1
  refine AWp_cond rfl (fun hb14 => ?_) (fun hb14 => ?_)
  ·
   refine AWp_seqK fun Y1 y1 => ?_
   refine AWp_region ?_
   simp only [↓bO, go_sem, seval]
   refine y1 _ ?_
   try clear y1 Y1
   refine AWp_ret ?_
   try simp only [thenQ, blockQ, noGotoQ, retQ, aRes, tupOf, bS, bA]
   refine Le.of_eq (congrArg (fun b => AV.v (.bool b)) ?_)
   first | (rw [eqLF_len (ps := ps) (qs := qs) (by simp at hb14; omega)]; done) | (rw [eqLF_false hp hq (by simpa using hb30)]; done) | (rw [eqLF_true hl fun k p q hp hq => hs.2 k p q (by have := (List.getElem?_eq_some_iff.1 hp).1; omega) hp hq]; done)
  ·
   have hl : ps.length = qs.length := by simp at hb14; omega
   refine AWp_skip ?_
   try simp only [thenQ, blockQ, noGotoQ]
   refine y0 _ ?_
   try clear y0 Y0
   refine AWp_seqK fun Y0 y0 => ?_
   refine AWp_seqK fun Y1 y1 => ?_
   refine AWp_region ?_
   simp only [↓bO, go_sem, seval]
   refine y1 _ ?_
   try clear y1 Y1
   refine AWp_block ?_
   refine AWp_loopM (σ := Nat) (mB 32 229382) (fun s => s ≤ ps.length ∧ ∀ (k : Nat) (p q : Ty), k < s → ps[k]? = some p → qs[k]? = some q → f p q = true) (fun s => [(17, .v (.int .i64 (s : Int)))]) (fun s => []) (fun s => ps.length - s) 0 (⟨by omega, fun k p q hk => by omega⟩) ?_ (fun s hs => ?_)
   ·
    simp only [maskL, setsL, putsO, putO, mB, List.set_cons_zero, List.set_cons_succ, seval]
    exact Weak.mk (by simp only [go_sem, Le.refl, Le.any, Le.slNil, Int.natCast_add, Int.cast_ofNat_Int, Int.natCast_one]) (fun _ _ h => h) rfl rfl
   simp only [maskL, setsL, putsO, putO, mB, List.set_cons_zero, List.set_cons_succ, seval]
   refine AWp_seqK fun Y1 y1 => ?_
   refine AWp_region ?_
   simp only [↓bO, go_sem, seval]
   refine y1 _ ?_
   try clear y1 Y1
   refine AWp_seqK fun Y1 y1 => ?_
   refine AWp_cond rfl (fun hb18 => ?_) (fun hb18 => ?_)
   ·
    have hk : s < ps.length := by simpa using hb18
    obtain ⟨p, hp⟩ : ∃ p, ps[s]? = some p := ⟨_, List.getElem?_eq_getElem hk⟩
    have hk2 : s < qs.length := by omega
    obtain ⟨q, hq⟩ : ∃ q, qs[s]? = some q := ⟨_, List.getElem?_eq_getElem hk2⟩
    have hw : IntKind.i64.wrap ((s : Int) + 1) = (s : Int) + 1 := wrap_in (by omega) (by simp only [maxLen] at hm1; omega)
    refine AWp_skip ?_
    try simp only [thenQ, blockQ, noGotoQ]
    refine y1 _ ?_
    try clear y1 Y1
    refine AWp_seqK fun Y1 y1 => ?_
    refine AWp_block ?_
    refine AWp_seqK fun Y2 y2 => ?_
    refine AWp_region ?_
    refine aops_chunk 4 fun Q0 q0 => ?_
    simp only [↓bO, go_sem, seval, hk, hk2, gM hp, gM hq, Int.natCast_add, hw]
    refine q0 _ ?_
    clear q0 Q0
    simp only [go_sem]
    simp only [↓bO, go_sem, seval, hk, hk2, gM hp, gM hq, Int.natCast_add, hw]
    refine y2 _ ?_
    try clear y2 Y2
    refine AWp_seqK fun Y2 y2 => ?_
    refine AWp_region ?_
    refine aops_chunk 4 fun Q0 q0 => ?_
    simp only [↓bO, go_sem, seval, hk, hk2, gM hp, gM hq, Int.natCast_add, hw]
    refine q0 _ ?_
    clear q0 Q0
    simp only [go_sem]
    simp only [↓bO, go_sem, seval, hk, hk2, gM hp, gM hq, Int.natCast_add, hw]
    refine y2 _ ?_
    try clear y2 Y2
    refine AWp_seqK fun Y2 y2 => ?_
    refine AWp_region ?_
    refine aops_chunk 3 fun Q0 q0 => ?_
    simp only [↓bO, go_sem, seval, hk, hk2, gM hp, gM hq, Int.natCast_add, hw]
    refine q0 _ ?_
    clear q0 Q0
    simp only [go_sem]
    refine aops_chunk 1 fun Q0 q0 => ?_
    simp only [↓bO, go_sem, seval, hk, hk2, gM hp, gM hq, Int.natCast_add, hw]
    refine APure.call (hf p (List.mem_of_getElem? hp) q) ?_
    try simp only [bS, bA, thenQ, blockQ, noGotoQ]
    refine q0 _ ?_
    clear q0 Q0
    simp only [go_sem]
    simp only [↓bO, go_sem, seval, hk, hk2, gM hp, gM hq, Int.natCast_add, hw]
    refine y2 _ ?_
    try clear y2 Y2
    refine AWp_cond rfl (fun hb30 => ?_) (fun hb30 => ?_)
    ·
     refine AWp_seqK fun Y2 y2 => ?_
     refine AWp_region ?_
     simp only [↓bO, go_sem, seval, hk, hk2, gM hp, gM hq, Int.natCast_add, hw]
     refine y2 _ ?_
     try clear y2 Y2
     refine AWp_ret ?_
     try simp only [thenQ, blockQ, noGotoQ, retQ, aRes, tupOf, bS, bA]
     refine Le.of_eq (congrArg (fun b => AV.v (.bool b)) ?_)
     first | (rw [eqLF_len (ps := ps) (qs := qs) (by simp at hb14; omega)]; done) | (rw [eqLF_false hp hq (by simpa using hb30)]; done) | (rw [eqLF_true hl fun k p q hp hq => hs.2 k p q (by have := (List.getElem?_eq_some_iff.1 hp).1; omega) hp hq]; done)
    ·
     refine AWp_skip ?_
     try simp only [thenQ, blockQ, noGotoQ]
     refine y1 _ ?_
     try clear y1 Y1
     refine AWp_region ?_
     simp only [↓bO, go_sem, seval, hk, hk2, gM hp, gM hq, Int.natCast_add, hw]
     refine ⟨(s + 1), ⟨by omega, fun k p' q' hi h1 h2 => (by rcases Nat.lt_or_ge k s with h3 | h3 <;> first | exact hs.2 k p' q' h3 h1 h2 | (obtain rfl : k = s := (by omega); rw [hp] at h1; rw [hq] at h2; cases h1; cases h2; simpa using hb30))⟩, by omega, ?_⟩
     simp only [maskL, setsL, putsO, putO, mB, List.set_cons_zero, List.set_cons_succ, seval, hk, hk2, gM hp, gM hq, Int.natCast_add, Int.natCast_one, hw]
     first | (refine Weak.drops 2 0 rfl rfl (by simp only; omega) (by simp only; omega) ?_ ?_ ?_) | (refine Weak.drops 1 0 rfl rfl (by simp only; omega) (by simp only; omega) ?_ ?_ ?_) | (refine Weak.drops 0 0 rfl rfl (by simp only; omega) (by simp only; omega) ?_ ?_ ?_)
     · simp only [go_sem, Le.refl, Le.any, Int.natCast_add, Int.cast_ofNat_Int, Int.natCast_one]
     · simp only [UndL, UndOs, Ob.Und, and_true, true_and, and_self, Und.v, Und.any, Und.ptr, Und.map, Nat.reduceLT, Nat.zero_lt_succ, Und.tys, Und.tyAgg, Und.oslTys, Und.oslTys1, Und.clo0, Und.ty]
     · simp only [UndL, UndOs, Ob.Und, and_true, true_and, and_self, Und.v, Und.any, Und.ptr, Und.map, Nat.reduceLT, Nat.zero_lt_succ, Und.tys, Und.tyAgg, Und.oslTys, Und.oslTys1, Und.clo0, Und.ty]
   ·
    have hk : s = ps.length := by have := hs.1; simp at hb18; omega
    refine AWp_exit ?_
    simp only [thenQ, blockQ, noGotoQ, bA, Nat.reduceEqDiff, ↓reduceIte]
    refine y0 _ ?_
    try clear y0 Y0
    refine AWp_seqK fun Y0 y0 => ?_
    refine AWp_region ?_
    simp only [↓bO, go_sem, seval]
    refine y0 _ ?_
    try clear y0 Y0
    refine AWp_ret ?_
    try simp only [thenQ, blockQ, noGotoQ, retQ, aRes, tupOf, bS, bA]
    refine Le.of_eq (congrArg (fun b => AV.v (.bool b)) ?_)
    first | (rw [eqLF_len (ps := ps) (qs := qs) (by simp at hb14; omega)]; done) | (rw [eqLF_false hp hq (by simpa using hb30)]; done) | (rw [eqLF_true hl fun k p q hp hq => hs.2 k p q (by have := (List.getElem?_eq_some_iff.1 hp).1; omega) hp hq]; done)
theorem TSame_pure : ∀ (T : Ty) (U : Ty), APure Tryd.prog 51 [.agg T.cells, .agg U.cells] (.v (.bool (T.same U))) := by
  refine Ty.ind fun T ih => ?_
  intro U
  refine APure.mkL (.cons T.dataAgg (.cons U.dataAgg .nil)) (.v _) ?_
  refine ACalls_intro Tryd.func51 (by kernel_rfl) rfl (by rw [Tryd.ntmps51]; simp) (fun hm => ?_)
  simp only [Tryd.ntmps51, Tryd.results51, List.length_cons, List.length_nil, Nat.reduceAdd, Nat.reduceSub, List.replicate_succ, List.replicate_zero, List.cons_append, List.nil_append]
  refine AWp_seqK fun Y0 y0 => ?_
  refine AWp_region ?_
  simp only [↓bO, go_sem, seval]
  refine y0 _ ?_
  try clear y0 Y0
  refine AWp_seqK fun Y0 y0 => ?_
  refine AWp_region ?_
  refine aops_chunk 4 fun Q0 q0 => ?_
  simp only [↓bO, go_sem, seval]
  refine q0 _ ?_
  clear q0 Q0
  simp only [go_sem]
  refine aops_chunk 2 fun Q0 q0 => ?_
  simp only [↓bO, go_sem, seval]
  refine q0 _ ?_
  clear q0 Q0
  simp only [go_sem]
  refine aops_case 10 rfl (fun hc10 => ?_) (fun hc10 => ?_)
  ·
   simp only [List.set_cons_zero, List.set_cons_succ]
   refine aops_chunk 4 fun Q0 q0 => ?_
   simp only [↓bO, go_sem, seval]
   refine q0 _ ?_
   clear q0 Q0
   simp only [go_sem]
   refine aops_chunk 3 fun Q0 q0 => ?_
   simp only [↓bO, go_sem, seval]
   refine q0 _ ?_
   clear q0 Q0
   simp only [go_sem]
   refine aops_case 17 rfl (fun hc17 => ?_) (fun hc17 => ?_)
   ·
    simp only [List.set_cons_zero, List.set_cons_succ]
    refine aops_chunk 4 fun Q0 q0 => ?_
    simp only [↓bO, go_sem, seval]
    refine q0 _ ?_
    clear q0 Q0
    simp only [go_sem]
    refine aops_chunk 1 fun Q0 q0 => ?_
    simp only [↓bO, go_sem, seval]
    refine APure.call (EqualFuncTy_pure T.ps U.ps 51 Ty.same (fun p hp q => ih p hp q)) ?_
    try simp only [bS, bA, thenQ, blockQ, noGotoQ]
    refine q0 _ ?_
    clear q0 Q0
    simp only [go_sem]
    simp only [↓bO, go_sem, seval]
    refine y0 _ ?_
    try clear y0 Y0
    refine AWp_ret ?_
    try simp only [thenQ, blockQ, noGotoQ, retQ, aRes, tupOf, bS, bA]
    refine Le.of_eq (congrArg (fun b => AV.v (.bool b)) ?_)
    rw [Ty.same_eq, sameL_eqF]
    simp_all
   ·
    simp only [List.set_cons_zero, List.set_cons_succ]
    refine aops_chunk 4 fun Q0 q0 => ?_
    simp only [↓bO, go_sem, seval]
    refine q0 _ ?_
    clear q0 Q0
    simp only [go_sem]
    simp only [↓bO, go_sem, seval]
    refine y0 _ ?_
    try clear y0 Y0
    refine AWp_ret ?_
    try simp only [thenQ, blockQ, noGotoQ, retQ, aRes, tupOf, bS, bA]
    refine Le.of_eq (congrArg (fun b => AV.v (.bool b)) ?_)
    rw [Ty.same_eq, sameL_eqF]
    simp_all
  ·
   simp only [List.set_cons_zero, List.set_cons_succ]
   iterate 3 (refine aops_chunk 4 fun Q0 q0 => ?_; simp only [↓bO, go_sem, seval]; refine q0 _ ?_; clear q0 Q0; simp only [go_sem])
   simp only [↓bO, go_sem, seval]
   refine y0 _ ?_
   try clear y0 Y0
   refine AWp_ret ?_
   try simp only [thenQ, blockQ, noGotoQ, retQ, aRes, tupOf, bS, bA]
   refine Le.of_eq (congrArg (fun b => AV.v (.bool b)) ?_)
   rw [Ty.same_eq, sameL_eqF]
   simp_all
end Go.Proofs.YtheacaigeidflaaDoor
namespace Go.Proofs.YtheacaigeidflaaDoor
open Go Go.RowKit
set_option linter.unusedSimpArgs false
set_option linter.unusedVariables false
theorem Ty.k_mk (k n : Int) (ps : List Ty) : (Ty.mk k n ps).k = k := rfl
theorem Ty.n_mk (k n : Int) (ps : List Ty) : (Ty.mk k n ps).n = n := rfl
theorem Ty.ps_mk (k n : Int) (ps : List Ty) : (Ty.mk k n ps).ps = ps := rfl
theorem okN_one {n : Int} {len : Nat} (h : okN 1 n len = true) : 0 ≤ n ∧ n < 1073741824 ∧ len = 0 := by
  simp only [okN, decide_eq_true_eq] at h; omega
theorem okN_more {k n : Int} {len : Nat} (h : okN k n len = true) (hk : ¬ k = 1) : n = 0 := by
  simp only [okN, decide_eq_true_eq] at h; omega
theorem Ty.right_part {t p : Ty} (h : t.right = true) (hp : p ∈ t.ps) : p.right = true := by
  rw [Ty.right_eq, Bool.and_eq_true] at h
  exact List.all_eq_true.1 h.2 p hp
theorem Ty.right_var {t : Ty} (h : t.right = true) (hk : t.k = 1) : t = .mk 1 t.n [] := by
  obtain ⟨k, n, ps⟩ := t
  have hk : k = 1 := hk
  subst hk
  rw [Ty.right_eq, Bool.and_eq_true] at h
  have := (okN_one h.1).2.2
  simp only [Ty.ps, List.length_eq_zero_iff] at this
  simp [Ty.n, this]
theorem Ty.right_n {t : Ty} (h : t.right = true) (hk : ¬ t.k = 1) : t.n = 0 := by
  rw [Ty.right_eq, Bool.and_eq_true] at h
  exact okN_more h.1 hk
theorem eqLF_iff {α : Type} {f : α → α → Bool} : ∀ {ps qs : List α}, (∀ p ∈ ps, ∀ q, f p q = true ↔ p = q) → (eqLF f ps qs = true ↔ ps = qs)
  | [], [], _ => by simp [eqLF]
  | [], _ :: _, _ => by simp [eqLF]
  | _ :: _, [], _ => by simp [eqLF]
  | p :: ps, q :: qs, h => by
    simp only [eqLF, Bool.and_eq_true, List.cons.injEq]
    rw [h p (by simp) q, eqLF_iff fun p' hp q' => h p' (by simp [hp]) q']
theorem Ty.same_iff : ∀ T U : Ty, T.same U = true ↔ T = U := by
  refine Ty.ind fun T ih => fun U => ?_
  rw [Ty.same_eq, sameL_eqF, Bool.and_eq_true, Bool.and_eq_true, eqLF_iff ih]
  obtain ⟨k, n, ps⟩ := T
  obtain ⟨k', n', ps'⟩ := U
  simp only [Ty.k, Ty.n, Ty.ps, beq_iff_eq, Ty.mk.injEq]
  exact ⟨fun h => ⟨h.1.1, h.1.2, h.2⟩, fun h => ⟨⟨h.1, h.2.1⟩, h.2.2⟩⟩
def pfind {α : Type} : List (Int × α) → Int → Option α
  | [], _ => none
  | (k, x) :: r, i => if k = i then some x else pfind r i
def pset {α : Type} : List (Int × α) → Int → α → List (Int × α)
  | [], k, x => [(k, x)]
  | (k', y) :: r, k, x => if k' = k then (k, x) :: r else (k', y) :: pset r k x
theorem pfind_pset {α : Type} (k : Int) (x : α) (i : Int) : ∀ m : List (Int × α), pfind (pset m k x) i = if k = i then some x else pfind m i
  | [] => by simp [pset, pfind]
  | (a, b) :: m => by
    simp only [pset]
    split
    · rename_i e; subst e; simp only [pfind]; split <;> rfl
    · rename_i e
      simp only [pfind, pfind_pset k x i m]
      by_cases h1 : k = i
      · subst h1; simp [e]
      · simp [h1]
theorem aFind_p {α : Type} (f : α → AV) (i : Int) : ∀ m : List (Int × α), aFind (m.map fun p => (p.1, f p.2)) i = (pfind m i).map f
  | [] => rfl
  | (a, b) :: m => by simp only [List.map_cons, aFind, pfind]; split <;> simp [aFind_p f i m]
theorem aSet_p {α : Type} (f : α → AV) (k : Int) (x : α) : ∀ m : List (Int × α), aSet (m.map fun p => (p.1, f p.2)) k (f x) = (pset m k x).map fun p => (p.1, f p.2)
  | [] => rfl
  | (a, b) :: m => by simp only [List.map_cons, aSet, pset]; split <;> simp [aSet_p f k x m]
def Ty.occ (v : Int) (t : Ty) : Prop := v ∈ t.rvars []
theorem mem_addV {l : List Int} {n v : Int} : v ∈ addV l n ↔ v ∈ l ∨ v = n := by
  unfold addV
  split
  · rename_i h
    obtain ⟨x, hx, e⟩ := List.any_eq_true.1 h
    simp only [beq_iff_eq] at e
    subst e
    exact ⟨.inl, fun h => h.elim id fun h => h ▸ hx⟩
  · simp
theorem Ty.mem_rvars (v : Int) : ∀ (t : Ty) (l : List Int), v ∈ t.rvars l ↔ v ∈ l ∨ t.occ v := by
  have key : ∀ t : Ty, (∀ p ∈ t.ps, ∀ l : List Int, v ∈ p.rvars l ↔ v ∈ l ∨ p.occ v) → ∀ l, v ∈ t.rvars l ↔ v ∈ l ∨ (t.k = 1 ∧ v = t.n) ∨ ∃ p ∈ t.ps, p.occ v := by
    intro t ih l
    have hL : ∀ ps : List Ty, (∀ p ∈ ps, ∀ l : List Int, v ∈ p.rvars l ↔ v ∈ l ∨ p.occ v) → ∀ l : List Int, v ∈ Ty.rvarsL ps l ↔ v ∈ l ∨ ∃ p ∈ ps, p.occ v := by
      intro ps
      induction ps with
      | nil => intro _ l; simp [Ty.rvarsL]
      | cons p ps ih2 =>
        intro h l
        rw [Ty.rvarsL, ih2 (fun q hq => h q (by simp [hq])), h p (by simp)]
        simp only [List.mem_cons, exists_eq_or_imp, or_assoc]
    rw [Ty.rvars_eq, hL t.ps ih]
    split
    · rename_i hk; simp only [mem_addV, hk, true_and, or_assoc]
    · rename_i hk; simp only [hk, false_and, false_or]
  refine Ty.ind fun t ih l => ?_
  have h1 := key t ih l
  have h2 := key t ih []
  unfold Ty.occ
  rw [h1, h2]; simp
theorem Ty.occ_iff (v : Int) (t : Ty) : t.occ v ↔ (t.k = 1 ∧ v = t.n) ∨ ∃ p ∈ t.ps, p.occ v := by
  have hL : ∀ (ps : List Ty) (l : List Int), v ∈ Ty.rvarsL ps l ↔ v ∈ l ∨ ∃ p ∈ ps, p.occ v := by
    intro ps
    induction ps with
    | nil => intro l; simp [Ty.rvarsL]
    | cons p ps ih2 =>
      intro l
      rw [Ty.rvarsL, ih2, Ty.mem_rvars]
      simp only [List.mem_cons, exists_eq_or_imp, or_assoc]
  rw [Ty.occ, Ty.rvars_eq, hL]
  split
  · rename_i hk; simp [mem_addV, hk]
  · rename_i hk; simp [hk]
mutual
/-- what a function of variables makes of a type -/
def Ty.subF (σ : Int → Ty) : Ty → Ty
  | .mk k n ps => if k = 1 then σ n else .mk k n (Ty.subFL σ ps)
def Ty.subFL (σ : Int → Ty) : List Ty → List Ty
  | [] => []
  | p :: ps => Ty.subF σ p :: Ty.subFL σ ps
end
theorem Ty.subFL_eq (σ : Int → Ty) : ∀ ps, Ty.subFL σ ps = ps.map (Ty.subF σ)
  | [] => by simp [Ty.subFL]
  | p :: ps => by simp [Ty.subFL, Ty.subFL_eq σ ps]
theorem Ty.subF_var {σ : Int → Ty} {t : Ty} (h : t.k = 1) : t.subF σ = σ t.n := by
  obtain ⟨k, n, ps⟩ := t
  have h : k = 1 := h
  rw [Ty.subF, if_pos h]; rfl
theorem Ty.subF_more {σ : Int → Ty} {t : Ty} (h : ¬ t.k = 1) : t.subF σ = .mk t.k t.n (t.ps.map (Ty.subF σ)) := by
  obtain ⟨k, n, ps⟩ := t
  have h : ¬ k = 1 := h
  rw [Ty.subF, if_neg h, Ty.subFL_eq]; rfl
theorem Ty.subF_congr {σ τ : Int → Ty} : ∀ t : Ty, (∀ v, t.occ v → σ v = τ v) → t.subF σ = t.subF τ := by
  refine Ty.ind fun t ih h => ?_
  by_cases hk : t.k = 1
  · rw [Ty.subF_var hk, Ty.subF_var hk]
    exact h _ ((Ty.occ_iff _ _).2 (.inl ⟨hk, rfl⟩))
  · rw [Ty.subF_more hk, Ty.subF_more hk]
    congr 1
    exact List.map_congr_left fun p hp => ih p hp fun v hv => h v ((Ty.occ_iff _ _).2 (.inr ⟨p, hp, hv⟩))
def bfun (l : List Bd) (n : Int) : Ty := if 0 ≤ bfind l n then ((l[(bfind l n).toNat]?).map Bd.t).getD (.mk 0 0 []) else .mk 1 n []
theorem Ty.sub_subF (l : List Bd) : ∀ t : Ty, t.right = true → t.sub l = t.subF (bfun l) := by
  refine Ty.ind fun t ih hr => ?_
  by_cases hk : t.k = 1
  · have e := Ty.right_var hr hk
    rw [Ty.subF_var hk]
    conv => lhs; rw [e]
    simp only [Ty.sub, bfun, true_and, Ty.subL]
  · rw [Ty.subF_more hk, Ty.sub_no fun h => hk h.1]
    congr 1
    exact List.map_congr_left fun p hp => ih p hp (Ty.right_part hr hp)
mutual
/-- what stands in another type where a variable stands first -/
def Ty.stand (v : Int) : Ty → Ty → Option Ty
  | .mk k n ps, t => if k = 1 ∧ n = v then some t else Ty.standL v ps t.ps
def Ty.standL (v : Int) : List Ty → List Ty → Option Ty
  | p :: ps, q :: qs => match Ty.stand v p q with
    | some x => some x
    | none => Ty.standL v ps qs
  | [], _ => none
  | _ :: _, [] => none
end
theorem Ty.stand_eq (v : Int) (t u : Ty) : t.stand v u = if t.k = 1 ∧ t.n = v then some u else Ty.standL v t.ps u.ps := by cases t; rw [Ty.stand]; rfl
theorem Ty.stand_none (v : Int) : ∀ (t u : Ty), ¬ t.occ v → t.stand v u = none := by
  refine Ty.ind fun t ih u h => ?_
  rw [Ty.occ_iff] at h
  rw [Ty.stand_eq, if_neg fun hh => h (.inl ⟨hh.1, hh.2.symm⟩)]
  have hL : ∀ ps : List Ty, (∀ p ∈ ps, ∀ u : Ty, p.stand v u = none) → ∀ us, Ty.standL v ps us = none := by
    intro ps
    induction ps with
    | nil => intro _ us; rw [Ty.standL]
    | cons p ps ih2 =>
      intro h us
      cases us with
      | nil => rw [Ty.standL]
      | cons q qs => rw [Ty.standL, h p (by simp) q]; exact ih2 (fun p hp => h p (by simp [hp])) qs
  exact hL t.ps (fun p hp u => ih p hp u fun ho => h (.inr ⟨p, hp, ho⟩)) u.ps
mutual
/-- matching: what is told behind what was -/
def Ty.match : Ty → Ty → List (Int × Ty) → Bool × List (Int × Ty)
  | .mk k n ps, t, m => if k = 1 then (match pfind m n with | none => (true, pset m n t) | some x => (x.same t, m)) else if k = t.k ∧ ps.length = t.ps.length then Ty.matchL ps t.ps m else (false, m)
def Ty.matchL : List Ty → List Ty → List (Int × Ty) → Bool × List (Int × Ty)
  | p :: ps, q :: qs, m => if (Ty.match p q m).1 then Ty.matchL ps qs (Ty.match p q m).2 else (false, (Ty.match p q m).2)
  | [], _, m => (true, m)
  | _ :: _, [], m => (true, m)
end
theorem Ty.match_var {g t : Ty} {m : List (Int × Ty)} (h : g.k = 1) : g.match t m = match pfind m g.n with | none => (true, pset m g.n t) | some x => (x.same t, m) := by
  obtain ⟨k, n, ps⟩ := g
  have h : k = 1 := h
  rw [Ty.match, if_pos h]; rfl
theorem Ty.match_no {g t : Ty} {m : List (Int × Ty)} (h : ¬ g.k = 1) (h2 : ¬ (g.k = t.k ∧ g.ps.length = t.ps.length)) : g.match t m = (false, m) := by
  obtain ⟨k, n, ps⟩ := g
  have h : ¬ k = 1 := h
  have h2 : ¬ (k = t.k ∧ ps.length = t.ps.length) := h2
  rw [Ty.match, if_neg h, if_neg h2]
theorem Ty.match_more {g t : Ty} {m : List (Int × Ty)} (h : ¬ g.k = 1) (h2 : g.k = t.k ∧ g.ps.length = t.ps.length) : g.match t m = Ty.matchL g.ps t.ps m := by
  obtain ⟨k, n, ps⟩ := g
  have h : ¬ k = 1 := h
  have h2 : k = t.k ∧ ps.length = t.ps.length := h2
  rw [Ty.match, if_neg h, if_pos h2]; rfl
structure MtOk (m m' : List (Int × Ty)) (occ : Int → Prop) (st : Int → Option Ty) (sub : (Int → Ty) → Prop) : Prop where
  keep : ∀ v x, pfind m v = some x → pfind m' v = some x
  has : ∀ v, occ v → ∃ x, pfind m' v = some x
  new : ∀ v x, pfind m' v = some x → pfind m v = some x ∨ (st v = some x ∧ occ v)
  does : ∀ σ : Int → Ty, (∀ v x, pfind m' v = some x → σ v = x) → sub σ
  only : ∀ σ : Int → Ty, sub σ → (∀ v x, pfind m v = some x → σ v = x) → ∀ v x, pfind m' v = some x → σ v = x
theorem Ty.match_ok : ∀ g : Ty, g.right = true → ∀ (t : Ty) (m : List (Int × Ty)), t.right = true → (g.match t m).1 = true → MtOk m (g.match t m).2 (fun v => g.occ v) (fun v => g.stand v t) (fun σ => g.subF σ = t) := by
  refine Ty.ind fun g ih hr t m ht hm => ?_
  by_cases hk : g.k = 1
  · rw [Ty.match_var hk] at hm ⊢
    have hocc : ∀ v, g.occ v ↔ v = g.n := by
      intro v
      rw [Ty.occ_iff, Ty.right_var hr hk]; simp [Ty.k, Ty.n, Ty.ps]
    cases hf : pfind m g.n with
    | some y =>
      rw [hf] at hm
      simp only at hm ⊢
      have e := (Ty.same_iff y t).1 hm
      subst e
      refine ⟨fun v x h => h, fun v hv => ?_, fun v x h => .inl h, fun σ h => ?_, fun σ _ h => h⟩
      · rw [(hocc v).1 hv]; exact ⟨y, hf⟩
      · rw [Ty.subF_var hk]; exact h _ _ hf
    | none =>
      simp only
      refine ⟨fun v x h => ?_, fun v hv => ?_, fun v x h => ?_, fun σ h => ?_, fun σ hs h v x hx => ?_⟩
      · rw [pfind_pset, if_neg fun e => by subst e; rw [hf] at h; cases h]; exact h
      · rw [pfind_pset, if_pos ((hocc v).1 hv).symm]; exact ⟨t, rfl⟩
      · rw [pfind_pset] at h
        split at h
        · rename_i e; cases h; exact .inr ⟨by rw [Ty.stand_eq, if_pos ⟨hk, e⟩], (hocc v).2 e.symm⟩
        · exact .inl h
      · rw [Ty.subF_var hk]; exact h _ _ (by rw [pfind_pset, if_pos rfl])
      · rw [Ty.subF_var hk] at hs
        rw [pfind_pset] at hx
        split at hx
        · rename_i e; cases hx; rw [← e]; exact hs
        · exact h v x hx
  · by_cases h2 : g.k = t.k ∧ g.ps.length = t.ps.length
    · have hL : ∀ (ps qs : List Ty) (m : List (Int × Ty)), ps.length = qs.length → (∀ p ∈ ps, p ∈ g.ps) → (∀ q ∈ qs, q.right = true) → (Ty.matchL ps qs m).1 = true →
          MtOk m (Ty.matchL ps qs m).2 (fun v => ∃ p ∈ ps, p.occ v) (fun v => Ty.standL v ps qs) (fun σ => ps.map (Ty.subF σ) = qs) := by
        intro ps
        induction ps with
        | nil =>
          intro qs m hl _ _ _
          have : qs = [] := by cases qs with | nil => rfl | cons => simp at hl
          subst this
          rw [Ty.matchL]
          exact ⟨fun v x h => h, fun v h => by simp at h, fun v x h => .inl h, fun σ _ => rfl, fun σ _ h => h⟩
        | cons p ps ih2 =>
          intro qs m hl hp hq hm
          cases qs with
          | nil => simp at hl
          | cons q qs =>
            rw [Ty.matchL] at hm ⊢
            split at hm
            · rename_i h1
              rw [if_pos h1]
              have i1 := ih p (hp p (by simp)) (Ty.right_part hr (hp p (by simp))) q m (hq q (by simp)) h1
              have i2 := ih2 qs (p.match q m).2 (by simpa using hl) (fun x hx => hp x (by simp [hx])) (fun x hx => hq x (by simp [hx])) hm
              refine ⟨fun v x h => i2.keep v x (i1.keep v x h), fun v hv => ?_, fun v x h => ?_, fun σ h => ?_, fun σ hs h => ?_⟩
              · obtain ⟨p', hp', ho⟩ := hv
                rcases List.mem_cons.1 hp' with rfl | hp'
                · obtain ⟨x, hx⟩ := i1.has v ho
                  exact ⟨x, i2.keep v x hx⟩
                · exact i2.has v ⟨p', hp', ho⟩
              · cases h1v : pfind (p.match q m).2 v with
                | some y =>
                  have := i2.keep v y h1v
                  rw [h] at this
                  cases this
                  refine (i1.new v x h1v).imp id fun h3 => ⟨?_, p, by simp, h3.2⟩
                  rw [Ty.standL, h3.1]
                | none =>
                  rcases i2.new v x h with h3 | h3
                  · rw [h1v] at h3; cases h3
                  · have hno : ¬ p.occ v := fun ho => by
                      obtain ⟨y, hy⟩ := i1.has v ho
                      rw [h1v] at hy; cases hy
                    obtain ⟨p', hp', ho⟩ := h3.2
                    refine .inr ⟨?_, p', by simp [hp'], ho⟩
                    rw [Ty.standL, Ty.stand_none v p q hno]
                    exact h3.1
              · rw [List.map_cons, i1.does σ fun v x hv => h v x (i2.keep v x hv), i2.does σ h]
              · rw [List.map_cons, List.cons.injEq] at hs
                exact i2.only σ hs.2 (i1.only σ hs.1 h)
            · cases hm
      rw [Ty.match_more hk h2] at hm ⊢
      have i := hL g.ps t.ps m h2.2 (fun _ h => h) (fun q hq => Ty.right_part ht hq) hm
      have e1 := Ty.right_n hr hk
      have e2 := Ty.right_n ht (by rw [← h2.1]; exact hk)
      refine ⟨i.keep, fun v hv => ?_, fun v x h => ?_, fun σ h => ?_, fun σ hs h => ?_⟩
      · rcases (Ty.occ_iff _ _).1 hv with h3 | h3
        · exact absurd h3.1 hk
        · exact i.has v h3
      · refine (i.new v x h).imp id fun h3 => ⟨?_, (Ty.occ_iff _ _).2 (.inr h3.2)⟩
        rw [Ty.stand_eq, if_neg fun hh => hk hh.1]; exact h3.1
      · rw [Ty.subF_more hk, i.does σ h, e1, h2.1]
        rw [← e2, Ty.eta]
      · rw [Ty.subF_more hk] at hs
        exact i.only σ (by rw [← hs]; rfl) h
    · rw [Ty.match_no hk h2] at hm; cases hm
theorem Ty.match_never : ∀ g : Ty, g.right = true → ∀ (t : Ty) (m : List (Int × Ty)), t.right = true → (g.match t m).1 = false → ∀ σ : Int → Ty, (∀ v x, pfind m v = some x → σ v = x) → g.subF σ ≠ t := by
  refine Ty.ind fun g ih hr t m ht hm σ hσ => ?_
  by_cases hk : g.k = 1
  · rw [Ty.match_var hk] at hm
    rw [Ty.subF_var hk]
    cases hf : pfind m g.n with
    | none => rw [hf] at hm; simp at hm
    | some y =>
      rw [hf] at hm
      simp only at hm
      rw [hσ _ _ hf]
      intro e
      rw [(Ty.same_iff y t).2 e] at hm; cases hm
  · rw [Ty.subF_more hk]
    by_cases h2 : g.k = t.k ∧ g.ps.length = t.ps.length
    · rw [Ty.match_more hk h2] at hm
      have hL : ∀ (ps qs : List Ty) (m : List (Int × Ty)), (∀ p ∈ ps, p ∈ g.ps) → (∀ q ∈ qs, q.right = true) → (Ty.matchL ps qs m).1 = false → (∀ v x, pfind m v = some x → σ v = x) → ps.map (Ty.subF σ) ≠ qs := by
        intro ps
        induction ps with
        | nil => intro qs m _ _ h; rw [Ty.matchL] at h; cases h
        | cons p ps ih2 =>
          intro qs m hp hq hm hσ
          cases qs with
          | nil => simp
          | cons q qs =>
            rw [Ty.matchL] at hm
            rw [List.map_cons]
            intro e
            rw [List.cons.injEq] at e
            split at hm
            · rename_i h1
              have i1 := Ty.match_ok p (Ty.right_part hr (hp p (by simp))) q m (hq q (by simp)) h1
              exact ih2 qs _ (fun x hx => hp x (by simp [hx])) (fun x hx => hq x (by simp [hx])) hm (i1.only σ e.1 hσ) e.2
            · rename_i h1
              exact ih p (hp p (by simp)) (Ty.right_part hr (hp p (by simp))) q m (hq q (by simp)) (by simpa using h1) σ hσ e.1
      intro e
      exact hL g.ps t.ps m (fun _ h => h) (fun q hq => Ty.right_part ht hq) hm hσ (by rw [← e]; rfl)
    · intro e
      refine h2 ?_
      rw [← e]
      exact ⟨rfl, by simp [Ty.ps]⟩
def haveB (g : Ty) (m : List (Int × Ty)) : List Bd := (g.rvars []).map fun v => ⟨v, (pfind m v).getD (.mk 0 0 [])⟩
end Go.Proofs.YtheacaigeidflaaDoor
namespace Go.Proofs.YtheacaigeidflaaDoor
open Go Go.RowKit
abbrev vTy (n : Int) : Ty := .mk 1 n []
theorem Ty.subF_subF (σ τ : Int → Ty) : ∀ t : Ty, (t.subF σ).subF τ = t.subF fun v => (σ v).subF τ := by
  refine Ty.ind fun t ih => ?_
  by_cases hk : t.k = 1
  · rw [Ty.subF_var hk, Ty.subF_var hk]
  · rw [Ty.subF_more hk, Ty.subF_more (σ := fun v => (σ v).subF τ) hk, Ty.subF_more (by exact hk)]
    simp only [Ty.k_mk, Ty.n_mk, Ty.ps_mk, List.map_map]
    congr 1
    exact List.map_congr_left fun p hp => ih p hp
theorem Ty.occ_vTy {v w : Int} : (vTy v).occ w ↔ w = v := by
  rw [Ty.occ_iff]
  simp [vTy, Ty.k, Ty.n, Ty.ps]
def SolvesF (σ : Int → Ty) (l : List (Ty × Ty)) : Prop := ∀ e ∈ l, e.1.subF σ = e.2.subF σ
structure MG (l : List (Ty × Ty)) (σ : Int → Ty) : Prop where
  solves : SolvesF σ l
  most : ∀ θ : Int → Ty, SolvesF θ l → ∀ v, (σ v).subF θ = θ v
structure Norm (L : List Int) (σ : Int → Ty) : Prop where
  right : ∀ v ∈ L, (σ v).right = true
  out : ∀ v, v ∉ L → σ v = vTy v
  fix : ∀ v ∈ L, ∀ u, (σ v).occ u → u ∈ L ∧ σ u = vTy u
  least : ∀ v ∈ L, ∀ u, σ v = vTy u → u ≤ v
structure Raw (L : List Int) (l : List (Ty × Ty)) (o : Int → Ty) : Prop where
  right : ∀ v ∈ L, (o v).right = true
  out : ∀ v, v ∉ L → o v = vTy v
  rng : ∀ v ∈ L, ∀ u, (o v).occ u → u ∈ L
  idem : ∀ v ∈ L, (o v).subF o = o v
  mg : MG l o
def firstV (L : List Int) (o : Int → Ty) (w : Int) : Ty := match L.find? fun v => (o v).same (vTy w) with
  | some v => vTy v
  | none => vTy w
theorem Ty.subF_right {σ : Int → Ty} : ∀ t : Ty, t.right = true → (∀ v, t.occ v → (σ v).right = true) → (t.subF σ).right = true := by
  refine Ty.ind fun t ih hr h => ?_
  by_cases hk : t.k = 1
  · rw [Ty.subF_var hk]; exact h _ ((Ty.occ_iff _ _).2 (.inl ⟨hk, rfl⟩))
  · rw [Ty.subF_more hk, Ty.right_eq, Bool.and_eq_true]
    have hr2 := hr
    rw [Ty.right_eq, Bool.and_eq_true] at hr2
    refine ⟨by simp only [Ty.k_mk, Ty.n_mk, Ty.ps_mk, List.length_map]; exact hr2.1, List.all_eq_true.2 fun q hq => ?_⟩
    obtain ⟨p, hp, rfl⟩ := List.mem_map.1 hq
    exact ih p hp (Ty.right_part hr hp) fun v hv => h v ((Ty.occ_iff _ _).2 (.inr ⟨p, hp, hv⟩))
theorem Ty.subF_occ {σ : Int → Ty} : ∀ (t : Ty) (u : Int), (t.subF σ).occ u → ∃ v, t.occ v ∧ (σ v).occ u := by
  refine Ty.ind fun t ih u h => ?_
  by_cases hk : t.k = 1
  · rw [Ty.subF_var hk] at h
    exact ⟨t.n, (Ty.occ_iff _ _).2 (.inl ⟨hk, rfl⟩), h⟩
  · rw [Ty.subF_more hk] at h
    rcases (Ty.occ_iff _ _).1 h with ⟨h1, _⟩ | ⟨q, hq, h2⟩
    · exact absurd h1 hk
    · obtain ⟨p, hp, rfl⟩ := List.mem_map.1 hq
      obtain ⟨v, h3, h4⟩ := ih p hp u h2
      exact ⟨v, (Ty.occ_iff _ _).2 (.inr ⟨p, hp, h3⟩), h4⟩
def OccE (l : List (Ty × Ty)) (v : Int) : Prop := ∃ e ∈ l, e.1.occ v ∨ e.2.occ v
def RightE (l : List (Ty × Ty)) : Prop := ∀ e ∈ l, e.1.right = true ∧ e.2.right = true
theorem bfind_neg {o : List Bd} {v : Int} (h : v ∉ o.map Bd.v) : bfind o v = -1 := by
  unfold bfind
  exact idxI_none fun j q hj hq => by
    have h1 := List.mem_of_getElem? hq
    cases hb : q.v == v with
    | false => rfl
    | true => exact absurd (List.mem_map.2 ⟨q, h1, by simpa using hb⟩) h
theorem bfun_out {o : List Bd} {v : Int} (h : v ∉ o.map Bd.v) : bfun o v = vTy v := by
  unfold bfun
  rw [bfind_neg h, if_neg (by omega)]
theorem bfind_at {o : List Bd} (hn : (o.map Bd.v).Nodup) {i : Nat} {b : Bd} (hb : o[i]? = some b) : bfind o b.v = (i : Int) := by
  unfold bfind
  refine idxI_some (p := b) hb (by simp) fun j q hj hq => ?_
  cases hg : q.v == b.v with
  | false => rfl
  | true =>
    have h1 := List.pairwise_iff_getElem.1 hn j i (by have := (List.getElem?_eq_some_iff.1 hq).1; simpa using this) (by have := (List.getElem?_eq_some_iff.1 hb).1; simpa using this) hj
    simp only [List.getElem_map] at h1
    rw [(List.getElem?_eq_some_iff.1 hq).2, (List.getElem?_eq_some_iff.1 hb).2] at h1
    exact absurd (by simpa using hg) h1
theorem bfun_in {o : List Bd} (hn : (o.map Bd.v).Nodup) {b : Bd} (hb : b ∈ o) : bfun o b.v = b.t := by
  obtain ⟨i, hi⟩ := List.mem_iff_getElem?.1 hb
  unfold bfun
  rw [bfind_at hn hi, if_pos (by omega), Int.toNat_natCast, hi]; rfl
theorem bfun_one (n : Int) (b : Ty) (v : Int) : bfun [⟨n, b⟩] v = if v = n then b else vTy v := by
  by_cases h : v = n
  · subst h
    rw [if_pos rfl]
    exact bfun_in (o := [⟨v, b⟩]) (by simp) (b := ⟨v, b⟩) (by simp)
  · rw [if_neg h, bfun_out (by simpa using h)]
theorem one_sub {n : Int} {b : Ty} {θ : Int → Ty} (hb : b.subF θ = θ n) (t : Ty) (hr : t.right = true) : (t.sub [⟨n, b⟩]).subF θ = t.subF θ := by
  rw [Ty.sub_subF _ _ hr, Ty.subF_subF]
  refine Ty.subF_congr t fun v _ => ?_
  rw [bfun_one]
  by_cases h : v = n
  · rw [if_pos h, hb, h]
  · rw [if_neg h, Ty.subF_var rfl]; rfl
theorem Ty.var_right {v : Int} : ∀ {t : Ty}, t.right = true → t.occ v → (vTy v).right = true := by
  have key : ∀ t : Ty, t.right = true → t.occ v → (vTy v).right = true := by
    refine Ty.ind fun t ih hr h => ?_
    rcases (Ty.occ_iff _ _).1 h with ⟨h1, rfl⟩ | ⟨p, hp, hv⟩
    · exact (congrArg Ty.right (Ty.right_var hr h1)).symm.trans hr
    · exact ih p hp (Ty.right_part hr hp) hv
  exact fun {t} => key t
theorem one_right {n : Int} {b : Ty} (hb : b.right = true) (t : Ty) (hr : t.right = true) : (t.sub [⟨n, b⟩]).right = true := by
  rw [Ty.sub_subF _ _ hr]
  refine Ty.subF_right t hr fun v hv => ?_
  rw [bfun_one]
  split
  · exact hb
  · rename_i hne
    have h := Ty.var_right hr hv
    exact h
theorem one_occ {n : Int} {b : Ty} (t : Ty) (hr : t.right = true) {u : Int} (h : (t.sub [⟨n, b⟩]).occ u) : (t.occ u ∧ u ≠ n) ∨ (t.occ n ∧ b.occ u) := by
  rw [Ty.sub_subF _ _ hr] at h
  obtain ⟨v, h1, h2⟩ := Ty.subF_occ t u h
  rw [bfun_one] at h2
  by_cases he : v = n
  · rw [if_pos he] at h2
    exact .inr ⟨he ▸ h1, h2⟩
  · rw [if_neg he] at h2
    have := Ty.occ_vTy.1 h2
    subst this
    exact .inl ⟨h1, he⟩
structure RInv (l l' : List (Ty × Ty)) (o : List Bd) : Prop where
  rl : RightE l'
  ro : ∀ b ∈ o, b.t.right = true
  nd : (o.map Bd.v).Nodup
  vl : ∀ v, OccE l' v → OccE l v ∧ v ∉ o.map Bd.v
  vo : ∀ b ∈ o, OccE l b.v ∧ ∀ v, b.t.occ v → OccE l v ∧ v ∉ o.map Bd.v
  fwd : ∀ θ : Int → Ty, SolvesF θ l → SolvesF θ l' ∧ ∀ b ∈ o, b.t.subF θ = θ b.v
  bwd : ∀ θ : Int → Ty, SolvesF θ l' → (∀ b ∈ o, b.t.subF θ = θ b.v) → SolvesF θ l
section
variable {l l' : List (Ty × Ty)} {o : List Bd} {a b : Ty}
theorem RInv.drop (h : RInv l ((a, b) :: l') o) (he : a = b) : RInv l l' o :=
  ⟨fun e he => h.rl e (by simp [he]), h.ro, h.nd, fun v ⟨e, he, hv⟩ => h.vl v ⟨e, by simp [he], hv⟩, h.vo, fun θ hθ => ⟨fun e he => (h.fwd θ hθ).1 e (by simp [he]), (h.fwd θ hθ).2⟩,
    fun θ h1 h2 => h.bwd θ (fun e hm => by
      rcases List.mem_cons.1 hm with rfl | hm
      · simp only [he]
      · exact h1 e hm) h2⟩
def subE (n : Int) (b : Ty) (l : List (Ty × Ty)) : List (Ty × Ty) := l.map fun e => (e.1.sub [⟨n, b⟩], e.2.sub [⟨n, b⟩])
def subB (n : Int) (b : Ty) (o : List Bd) : List Bd := o.map (fun x => ⟨x.v, x.t.sub [⟨n, b⟩]⟩) ++ [⟨n, b⟩]
theorem subB_v (n : Int) (b : Ty) (o : List Bd) : (subB n b o).map Bd.v = o.map Bd.v ++ [n] := by simp [subB, Function.comp]
theorem RInv.bind {n : Int} {e : Ty × Ty} (h : RInv l (e :: l') o) (he : e = (vTy n, b) ∨ e = (b, vTy n)) (hn : ¬ b.occ n) : RInv l (subE n b l') (subB n b o) := by
  have hbr : b.right = true := by
    have := h.rl e (by simp)
    rcases he with rfl | rfl
    · exact this.2
    · exact this.1
  have hocc : ∀ v, (v = n ∨ b.occ v) → OccE (e :: l') v := fun v hv => ⟨e, by simp, by
    rcases he with rfl | rfl
    · exact hv.imp (fun h => Ty.occ_vTy.2 h) id
    · exact hv.symm.imp id (fun h => Ty.occ_vTy.2 h)⟩
  have hnl := h.vl n (hocc n (.inl rfl))
  have hbl : ∀ v, b.occ v → OccE l v ∧ v ∉ (subB n b o).map Bd.v := fun v hv => by
    have h1 := h.vl v (hocc v (.inr hv))
    refine ⟨h1.1, ?_⟩
    rw [subB_v, List.mem_append]
    rintro (h2 | h2)
    · exact h1.2 h2
    · simp at h2; subst h2; exact hn hv
  have heq : ∀ θ : Int → Ty, e.1.subF θ = e.2.subF θ ↔ b.subF θ = θ n := fun θ => by
    rcases he with rfl | rfl
    · simp only; rw [Ty.subF_var (t := vTy n) rfl]; exact eq_comm
    · simp only; rw [Ty.subF_var (t := vTy n) rfl]; rfl
  refine ⟨fun x hx => ?_, fun x hx => ?_, ?_, fun v hv => ?_, fun x hx => ?_, fun θ hθ => ?_, fun θ h1 h2 => ?_⟩
  · obtain ⟨y, hy, rfl⟩ := List.mem_map.1 hx
    have := h.rl y (by simp [hy])
    exact ⟨one_right hbr _ this.1, one_right hbr _ this.2⟩
  · rcases List.mem_append.1 hx with hx | hx
    · obtain ⟨y, hy, rfl⟩ := List.mem_map.1 hx
      exact one_right hbr _ (h.ro y hy)
    · simp at hx; subst hx; exact hbr
  · rw [subB_v, List.nodup_append]
    exact ⟨h.nd, by simp, fun x hx y hy => by simp at hy; subst hy; exact fun e => hnl.2 (e ▸ hx)⟩
  · obtain ⟨x, hx, hv⟩ := hv
    obtain ⟨y, hy, rfl⟩ := List.mem_map.1 hx
    have hyr := h.rl y (by simp [hy])
    have key : ∀ t : Ty, t.right = true → (∀ u, t.occ u → OccE (e :: l') u) → (t.sub [⟨n, b⟩]).occ v → OccE l v ∧ v ∉ (subB n b o).map Bd.v := fun t ht hto hv => by
      rcases one_occ t ht hv with ⟨h1, h2⟩ | ⟨_, h2⟩
      · have h3 := h.vl v (hto v h1)
        refine ⟨h3.1, ?_⟩
        rw [subB_v, List.mem_append]
        rintro (h4 | h4)
        · exact h3.2 h4
        · simp at h4; exact h2 h4
      · exact hbl v h2
    rcases hv with hv | hv
    · exact key _ hyr.1 (fun u hu => ⟨y, by simp [hy], .inl hu⟩) hv
    · exact key _ hyr.2 (fun u hu => ⟨y, by simp [hy], .inr hu⟩) hv
  · rcases List.mem_append.1 hx with hx | hx
    · obtain ⟨y, hy, rfl⟩ := List.mem_map.1 hx
      have h3 := h.vo y hy
      refine ⟨h3.1, fun v hv => ?_⟩
      rcases one_occ _ (h.ro y hy) hv with ⟨h1, h2⟩ | ⟨_, h2⟩
      · have h4 := h3.2 v h1
        refine ⟨h4.1, ?_⟩
        rw [subB_v, List.mem_append]
        rintro (h5 | h5)
        · exact h4.2 h5
        · simp at h5; exact h2 h5
      · exact hbl v h2
    · simp at hx; subst hx
      exact ⟨hnl.1, hbl⟩
  · obtain ⟨h1, h2⟩ := h.fwd θ hθ
    have hb := (heq θ).1 (h1 e (by simp))
    refine ⟨fun x hx => ?_, fun x hx => ?_⟩
    · obtain ⟨y, hy, rfl⟩ := List.mem_map.1 hx
      have hyr := h.rl y (by simp [hy])
      simp only
      rw [one_sub hb _ hyr.1, one_sub hb _ hyr.2]
      exact h1 y (by simp [hy])
    · rcases List.mem_append.1 hx with hx | hx
      · obtain ⟨y, hy, rfl⟩ := List.mem_map.1 hx
        simp only
        rw [one_sub hb _ (h.ro y hy)]
        exact h2 y hy
      · simp at hx; subst hx; exact hb
  · have hb : b.subF θ = θ n := h2 ⟨n, b⟩ (by simp [subB])
    refine h.bwd θ (fun x hx => ?_) fun x hx => ?_
    · rcases List.mem_cons.1 hx with rfl | hx
      · exact (heq θ).2 hb
      · have hyr := h.rl x (by simp [hx])
        have := h1 _ (List.mem_map.2 ⟨x, hx, rfl⟩)
        simp only at this
        rwa [one_sub hb _ hyr.1, one_sub hb _ hyr.2] at this
    · have := h2 ⟨x.v, x.t.sub [⟨n, b⟩]⟩ (List.mem_append.2 (.inl (List.mem_map.2 ⟨x, hx, rfl⟩)))
      simp only at this
      rwa [one_sub hb _ (h.ro x hx)] at this
end
structure Sch where
  vs : List Int
  t : Ty
def butL (l m : List Int) : List Int := l.filter fun v => !decide (v ∈ m)
def Sch.all (s : Sch) : List Int := s.t.rvars []
def Sch.ok (s : Sch) : Bool := s.t.right && decide (s.vs = s.all.filter fun v => decide (v ∈ s.vs))
def Sch.free (s : Sch) : List Int := butL s.all s.vs
theorem addV_nodup {l : List Int} (h : l.Nodup) (n : Int) : (addV l n).Nodup := by
  unfold addV
  split
  · exact h
  · rename_i hn
    rw [List.nodup_append]
    refine ⟨h, by simp, fun a ha b hb => ?_⟩
    simp at hb; subst hb
    intro e; subst e
    exact hn (List.any_eq_true.2 ⟨a, ha, by simp⟩)
theorem Ty.rvars_nodup : ∀ (t : Ty) (l : List Int), l.Nodup → (t.rvars l).Nodup := by
  refine Ty.ind fun t ih l hl => ?_
  rw [Ty.rvars_eq]
  have hL : ∀ ps : List Ty, (∀ p ∈ ps, ∀ l : List Int, l.Nodup → (p.rvars l).Nodup) → ∀ l : List Int, l.Nodup → (Ty.rvarsL ps l).Nodup := by
    intro ps
    induction ps with
    | nil => intro _ l hl; rw [Ty.rvarsL]; exact hl
    | cons p ps ih2 => intro h l hl; rw [Ty.rvarsL]; exact ih2 (fun q hq => h q (by simp [hq])) _ (h p (by simp) l hl)
  refine hL t.ps ih _ ?_
  split
  · exact addV_nodup hl _
  · exact hl
section
variable {s : Sch}
theorem Sch.ok_iff : s.ok = true ↔ s.t.right = true ∧ s.vs = s.all.filter fun v => decide (v ∈ s.vs) := by
  unfold Sch.ok; rw [Bool.and_eq_true, decide_eq_true_eq]
theorem Sch.mem_all (v : Int) : v ∈ s.all ↔ s.t.occ v := Iff.rfl
theorem Sch.vs_nodup (h : s.ok = true) : s.vs.Nodup := by
  rw [(Sch.ok_iff.1 h).2]
  exact (Ty.rvars_nodup s.t [] (by simp)).filter _
theorem Sch.mem_free (v : Int) : v ∈ s.free ↔ s.t.occ v ∧ v ∉ s.vs := by
  unfold Sch.free butL
  rw [List.mem_filter, Sch.mem_all]
  simp
end
def Inst (s : Sch) (t : Ty) : Prop := ∃ θ : Int → Ty, (∀ v, v ∉ s.vs → θ v = vTy v) ∧ s.t.subF θ = t
theorem inst_match {s : Sch} {t : Ty} (h : s.ok = true) (hf : s.free = []) (ht : t.right = true) : (s.t.match t []).1 = true ↔ Inst s t := by
  have hr := (Sch.ok_iff.1 h).1
  constructor
  · intro hm
    have i := Ty.match_ok s.t hr t [] ht hm
    refine ⟨fun v => if v ∈ s.vs then (pfind (s.t.match t []).2 v).getD (vTy v) else vTy v, fun v hv => by simp only [if_neg hv], ?_⟩
    have h2 := i.does (fun v => (pfind (s.t.match t []).2 v).getD (vTy v)) fun v x hv => by simp only [hv, Option.getD_some]
    have h2 : s.t.subF (fun v => (pfind (s.t.match t []).2 v).getD (vTy v)) = t := h2
    refine Eq.trans (Ty.subF_congr _ fun v hv => ?_) h2
    have hin : v ∈ s.vs := Decidable.byContradiction fun hn => by
      have : v ∈ s.free := (Sch.mem_free v).2 ⟨hv, hn⟩
      rw [hf] at this; cases this
    simp only [if_pos hin]
  · rintro ⟨θ, _, h2⟩
    cases hm : (s.t.match t []).1 with
    | true => rfl
    | false => exact absurd h2 (Ty.match_never s.t hr t [] ht hm θ fun v x hv => by simp [pfind] at hv)
mutual
def Ty.mark (p : Int → Bool) : Ty → Ty
  | .mk k n ps => if k = 1 ∧ p n = true then .mk (-1) n [] else .mk k n (Ty.markL p ps)
def Ty.markL (p : Int → Bool) : List Ty → List Ty
  | [] => []
  | t :: ts => Ty.mark p t :: Ty.markL p ts
end
theorem Ty.markL_eq (p : Int → Bool) : ∀ ps, Ty.markL p ps = ps.map (Ty.mark p)
  | [] => by simp [Ty.markL]
  | t :: ts => by simp [Ty.markL, Ty.markL_eq p ts]
theorem Ty.mark_yes {p : Int → Bool} {t : Ty} (h : t.k = 1) (hp : p t.n = true) : t.mark p = .mk (-1) t.n [] := by
  obtain ⟨k, n, ps⟩ := t
  rw [Ty.mark, if_pos ⟨h, hp⟩]; rfl
theorem Ty.mark_no {p : Int → Bool} {t : Ty} (h : ¬ (t.k = 1 ∧ p t.n = true)) : t.mark p = .mk t.k t.n (t.ps.map (Ty.mark p)) := by
  obtain ⟨k, n, ps⟩ := t
  have h : ¬ (k = 1 ∧ p n = true) := h
  rw [Ty.mark, if_neg h, Ty.markL_eq]; rfl
mutual
def Ty.unmark : Ty → Ty
  | .mk k n ps => if k = -1 then .mk 1 n [] else .mk k n (Ty.unmarkL ps)
def Ty.unmarkL : List Ty → List Ty
  | [] => []
  | t :: ts => Ty.unmark t :: Ty.unmarkL ts
end
theorem Ty.unmarkL_eq : ∀ ps, Ty.unmarkL ps = ps.map Ty.unmark
  | [] => by simp [Ty.unmarkL]
  | t :: ts => by simp [Ty.unmarkL, Ty.unmarkL_eq ts]
theorem Ty.unmark_no {t : Ty} (h : ¬ t.k = -1) : t.unmark = .mk t.k t.n (t.ps.map Ty.unmark) := by
  obtain ⟨k, n, ps⟩ := t
  have h : ¬ k = -1 := h
  rw [Ty.unmark, if_neg h, Ty.unmarkL_eq]; rfl
theorem Ty.unmark_mk {k n : Int} {ps : List Ty} (h : ¬ k = -1) : (Ty.mk k n ps).unmark = .mk k n (ps.map Ty.unmark) := Ty.unmark_no (t := .mk k n ps) h
theorem Ty.subF_mk {σ : Int → Ty} {k n : Int} {ps : List Ty} (h : ¬ k = 1) : (Ty.mk k n ps).subF σ = .mk k n (ps.map (Ty.subF σ)) := Ty.subF_more (t := .mk k n ps) h
theorem Ty.mark_mk {p : Int → Bool} {k n : Int} {ps : List Ty} (h : ¬ k = 1) : (Ty.mk k n ps).mark p = .mk k n (ps.map (Ty.mark p)) := Ty.mark_no (t := .mk k n ps) fun hh => h hh.1
theorem right_pos {t : Ty} (h : t.right = true) : ¬ t.k = -1 := fun e => by
  rw [Ty.right_eq, Bool.and_eq_true, okN, decide_eq_true_eq] at h
  omega
theorem Ty.unmark_mark : ∀ t : Ty, t.right = true → (t.mark fun _ => true).unmark = t := by
  refine Ty.ind fun t ih hr => ?_
  by_cases hk : t.k = 1
  · rw [Ty.mark_yes hk rfl, Ty.unmark, if_pos rfl]
    exact (Ty.right_var hr hk).symm
  · rw [Ty.mark_no fun h => hk h.1, Ty.unmark_mk (right_pos hr)]
    simp only [Ty.k_mk, Ty.n_mk, Ty.ps_mk, List.map_map]
    have e : t.ps.map (Ty.unmark ∘ Ty.mark fun _ => true) = t.ps := (List.map_congr_left fun p hp => ih p hp (Ty.right_part hr hp)).trans (List.map_id _)
    rw [e, Ty.eta]
theorem Ty.unmark_subF {p : Int → Bool} (σ : Int → Ty) : ∀ t : Ty, t.right = true → ((t.mark p).subF σ).unmark = t.subF fun v => if p v = true then vTy v else (σ v).unmark := by
  refine Ty.ind fun t ih hr => ?_
  by_cases hk : t.k = 1
  · rw [Ty.subF_var (t := t) hk]
    by_cases hp : p t.n = true
    · rw [Ty.mark_yes hk hp, Ty.subF_mk (show ¬ (-1 : Int) = 1 by decide), if_pos hp]
      simp [Ty.k_mk, Ty.n_mk, Ty.ps_mk, Ty.unmark]
    · rw [Ty.mark_no fun h => hp h.2, Ty.subF_var (by exact hk), if_neg hp]; rfl
  · rw [Ty.mark_no fun h => hk h.1, Ty.subF_mk hk, Ty.unmark_mk (right_pos hr), Ty.subF_more hk]
    simp only [Ty.k_mk, Ty.n_mk, Ty.ps_mk, List.map_map]
    congr 1
    exact List.map_congr_left fun q hq => ih q hq (Ty.right_part hr hq)
theorem Ty.mark_subF {p : Int → Bool} (θ : Int → Ty) (h : ∀ v, p v = true → θ v = vTy v) : ∀ t : Ty, t.right = true → (t.mark p).subF (fun v => (θ v).mark fun _ => true) = (t.subF θ).mark fun _ => true := by
  refine Ty.ind fun t ih hr => ?_
  by_cases hk : t.k = 1
  · rw [Ty.subF_var (t := t) hk]
    by_cases hp : p t.n = true
    · rw [Ty.mark_yes hk hp, Ty.subF_mk (show ¬ (-1 : Int) = 1 by decide), h _ hp, Ty.mark_yes rfl rfl]; rfl
    · rw [Ty.mark_no fun h => hp h.2, Ty.subF_var (by exact hk)]; rfl
  · rw [Ty.mark_no (t := t) fun h => hk h.1, Ty.subF_mk hk, Ty.subF_more (t := t) hk, Ty.mark_mk hk]
    simp only [Ty.k_mk, Ty.n_mk, Ty.ps_mk, List.map_map]
    congr 1
    exact List.map_congr_left fun q hq => ih q hq (Ty.right_part hr hq)
mutual
/-- does a type come of a general one? what its variables are then -/
def Ty.cov : Ty → Ty → List (Int × Ty) → Bool × List (Int × Ty)
  | .mk k n ps, t, m => if k = 1 then ((match pfind m n with | none => true | some x => x.same t), pset m n t) else if k = t.k ∧ n = t.n ∧ ps.length = t.ps.length then Ty.covL ps t.ps m else (false, m)
def Ty.covL : List Ty → List Ty → List (Int × Ty) → Bool × List (Int × Ty)
  | p :: ps, q :: qs, m => if (Ty.cov p q m).1 then Ty.covL ps qs (Ty.cov p q m).2 else (false, (Ty.cov p q m).2)
  | [], _, m => (true, m)
  | _ :: _, [], m => (true, m)
end
theorem Ty.cov_var {g t : Ty} {m : List (Int × Ty)} (h : g.k = 1) : g.cov t m = ((match pfind m g.n with | none => true | some x => x.same t), pset m g.n t) := by
  obtain ⟨k, n, ps⟩ := g
  have h : k = 1 := h
  rw [Ty.cov, if_pos h]; rfl
theorem Ty.cov_no {g t : Ty} {m : List (Int × Ty)} (h : ¬ g.k = 1) (h2 : ¬ (g.k = t.k ∧ g.n = t.n ∧ g.ps.length = t.ps.length)) : g.cov t m = (false, m) := by
  obtain ⟨k, n, ps⟩ := g
  have h : ¬ k = 1 := h
  have h2 : ¬ (k = t.k ∧ n = t.n ∧ ps.length = t.ps.length) := h2
  rw [Ty.cov, if_neg h, if_neg h2]
theorem Ty.cov_more {g t : Ty} {m : List (Int × Ty)} (h : ¬ g.k = 1) (h2 : g.k = t.k ∧ g.n = t.n ∧ g.ps.length = t.ps.length) : g.cov t m = Ty.covL g.ps t.ps m := by
  obtain ⟨k, n, ps⟩ := g
  have h : ¬ k = 1 := h
  have h2 : k = t.k ∧ n = t.n ∧ ps.length = t.ps.length := h2
  rw [Ty.cov, if_neg h, if_pos h2]; rfl
def Agr (m : List (Int × Ty)) (σ : Int → Ty) : Prop := ∀ v x, pfind m v = some x → σ v = x
theorem Ty.cov_iff : ∀ (g t : Ty) (m : List (Int × Ty)) (σ : Int → Ty), ((g.cov t m).1 = true → Agr (g.cov t m).2 σ → Agr m σ ∧ g.subF σ = t) ∧ (Agr m σ → g.subF σ = t → (g.cov t m).1 = true ∧ Agr (g.cov t m).2 σ) := by
  refine Ty.ind fun g ih t m σ => ?_
  by_cases hk : g.k = 1
  · rw [Ty.cov_var hk, Ty.subF_var hk]
    simp only
    constructor
    · intro h1 h2
      have h3 : σ g.n = t := h2 g.n t (by rw [pfind_pset, if_pos rfl])
      refine ⟨fun v x hv => ?_, h3⟩
      by_cases e : g.n = v
      · subst e
        rw [hv] at h1
        rw [h3]; exact ((Ty.same_iff _ _).1 h1).symm
      · exact h2 v x (by rw [pfind_pset, if_neg e]; exact hv)
    · intro h1 h2
      refine ⟨?_, fun v x hv => ?_⟩
      · cases hf : pfind m g.n with
        | none => rfl
        | some x => exact (Ty.same_iff _ _).2 ((h1 _ _ hf).symm.trans h2)
      · rw [pfind_pset] at hv
        split at hv
        · rename_i e; cases hv; rw [← e]; exact h2
        · exact h1 v x hv
  · have hL : ∀ (ps qs : List Ty) (m : List (Int × Ty)), (∀ p ∈ ps, p ∈ g.ps) → ps.length = qs.length → ((Ty.covL ps qs m).1 = true → Agr (Ty.covL ps qs m).2 σ → Agr m σ ∧ ps.map (Ty.subF σ) = qs) ∧ (Agr m σ → ps.map (Ty.subF σ) = qs → (Ty.covL ps qs m).1 = true ∧ Agr (Ty.covL ps qs m).2 σ) := by
      intro ps
      induction ps with
      | nil =>
        intro qs m _ hl
        have : qs = [] := List.length_eq_zero_iff.1 hl.symm
        subst this
        rw [Ty.covL]
        exact ⟨fun _ h => ⟨h, rfl⟩, fun h _ => ⟨rfl, h⟩⟩
      | cons p ps ih2 =>
        intro qs m hs hl
        cases qs with
        | nil => simp at hl
        | cons q qs =>
          rw [Ty.covL]
          have i1 := ih p (hs p (by simp)) q m σ
          have i2 := ih2 qs (p.cov q m).2 (fun x hx => hs x (by simp [hx])) (by simpa using hl)
          constructor
          · intro h1 h2
            split at h1
            · rename_i hc
              rw [if_pos hc] at h2
              obtain ⟨a1, a2⟩ := i2.1 h1 h2
              obtain ⟨b1, b2⟩ := i1.1 hc a1
              exact ⟨b1, by rw [List.map_cons, b2, a2]⟩
            · cases h1
          · intro h1 h2
            rw [List.map_cons, List.cons.injEq] at h2
            obtain ⟨b1, b2⟩ := i1.2 h1 h2.1
            rw [if_pos b1]
            exact i2.2 b2 h2.2
    by_cases h2 : g.k = t.k ∧ g.n = t.n ∧ g.ps.length = t.ps.length
    · rw [Ty.cov_more hk h2, Ty.subF_more hk]
      have i := hL g.ps t.ps m (fun _ h => h) h2.2.2
      constructor
      · intro h3 h4
        obtain ⟨a1, a2⟩ := i.1 h3 h4
        exact ⟨a1, by rw [a2, h2.1, h2.2.1, Ty.eta]⟩
      · intro h3 h4
        exact i.2 h3 (by rw [← h4]; rfl)
    · rw [Ty.cov_no hk h2, Ty.subF_more hk]
      constructor
      · intro h; cases h
      · intro _ h4
        exact absurd (by rw [← h4]; exact ⟨rfl, rfl, by simp [Ty.ps_mk]⟩) h2
theorem pfind_nil_agr (σ : Int → Ty) : Agr [] σ := fun v x h => by simp [pfind] at h
theorem inst_cov {s : Sch} {t : Ty} (h : s.ok = true) (ht : t.right = true) : ((s.t.mark fun v => !decide (v ∈ s.vs)).cov (t.mark fun _ => true) []).1 = true ↔ Inst s t := by
  have hr := (Sch.ok_iff.1 h).1
  constructor
  · intro hc
    obtain ⟨σ, hσ⟩ : ∃ σ : Int → Ty, Agr ((s.t.mark fun v => !decide (v ∈ s.vs)).cov (t.mark fun _ => true) []).2 σ :=
      ⟨fun v => (pfind ((s.t.mark fun v => !decide (v ∈ s.vs)).cov (t.mark fun _ => true) []).2 v).getD (vTy v), fun v x hv => by simp only [hv, Option.getD_some]⟩
    have h1 := ((Ty.cov_iff _ _ [] σ).1 hc hσ).2
    have h2 := congrArg Ty.unmark h1
    rw [Ty.unmark_subF σ s.t hr, Ty.unmark_mark t ht] at h2
    exact ⟨_, fun v hv => by simp [hv], h2⟩
  · rintro ⟨θ, h1, h2⟩
    refine ((Ty.cov_iff _ _ [] (fun v => (θ v).mark fun _ => true)).2 (pfind_nil_agr _) ?_).1
    rw [Ty.mark_subF θ (fun v hv => h1 v (by simpa using hv)) s.t hr, h2]
theorem inst_trans {a b : Sch} {t : Ty} (ha : a.ok = true) (h1 : Inst a b.t) (hf : ∀ v ∈ a.free, v ∉ b.vs) (h2 : Inst b t) : Inst a t := by
  obtain ⟨θ, e1, e2⟩ := h1
  obtain ⟨θ', e3, e4⟩ := h2
  refine ⟨fun v => if v ∈ a.vs then (θ v).subF θ' else vTy v, fun v hv => by simp only [if_neg hv], ?_⟩
  rw [← e4, ← e2, Ty.subF_subF]
  refine Ty.subF_congr _ fun v hv => ?_
  by_cases hm : v ∈ a.vs
  · simp only [if_pos hm]
  · simp only [if_neg hm]
    rw [e1 v hm, Ty.subF_var rfl]
    exact (e3 v (hf v ((Sch.mem_free v).2 ⟨hv, hm⟩))).symm
def callB (vs names : List Int) : List Bd := (vs.zip names).map fun p => ⟨p.1, vTy p.2⟩
theorem callB_v {vs names : List Int} (h : vs.length = names.length) : (callB vs names).map Bd.v = vs := by
  unfold callB
  rw [List.map_map]
  exact List.map_fst_zip (by omega)
theorem inst_call {s : Sch} {names : List Int} {t : Ty} (h : s.ok = true) (hl : s.vs.length = names.length) (hn : names.Nodup) (hf : ∀ v ∈ s.free, v ∉ names) : Inst s t ↔ Inst ⟨names, s.t.sub (callB s.vs names)⟩ t := by
  have hr := (Sch.ok_iff.1 h).1
  have hnd := Sch.vs_nodup h
  have hv := callB_v hl
  have hat : ∀ {i : Nat} {v n : Int}, s.vs[i]? = some v → names[i]? = some n → bfun (callB s.vs names) v = vTy n := fun {i v n} h1 h2 =>
    bfun_in (b := ⟨v, vTy n⟩) (by rw [hv]; exact hnd) (List.mem_map.2 ⟨(v, n), List.mem_of_getElem? (List.getElem?_zip_eq_some.2 ⟨h1, h2⟩), rfl⟩)
  have hidx : ∀ v ∈ s.vs, ∃ (i : Nat) (n : Int), s.vs[i]? = some v ∧ names[i]? = some n := fun v hvm => by
    obtain ⟨i, hi⟩ := List.mem_iff_getElem?.1 hvm
    have hil := (List.getElem?_eq_some_iff.1 hi).1
    exact ⟨i, names[i]'(by omega), hi, List.getElem?_eq_getElem (by omega)⟩
  unfold Inst
  simp only
  rw [Ty.sub_subF _ _ hr]
  constructor
  · rintro ⟨θ, h1, h2⟩
    refine ⟨fun n => if hm : n ∈ names then θ ((s.vs[names.findIdx fun x => x == n]?).getD 0) else vTy n, fun v hvn => by simp only [dif_neg hvn], ?_⟩
    rw [Ty.subF_subF, ← h2]
    refine Ty.subF_congr _ fun v ho => ?_
    by_cases hm : v ∈ s.vs
    · obtain ⟨i, n, hi, hni⟩ := hidx v hm
      rw [hat hi hni, Ty.subF_var rfl]
      have hnm := List.mem_of_getElem? hni
      have hix : names.findIdx (fun x => x == n) = i := by
        have hlt : names.findIdx (fun x => x == n) < names.length := List.findIdx_lt_length.2 ⟨n, hnm, by simp⟩
        have hp : (names[names.findIdx fun x => x == n]'hlt == n) = true := List.findIdx_getElem (p := fun x => x == n) (w := hlt)
        have hil := (List.getElem?_eq_some_iff.1 hni).1
        have e1 : names[names.findIdx fun x => x == n]'hlt = names[i]'hil := by
          rw [(List.getElem?_eq_some_iff.1 hni).2]; simpa using hp
        exact (List.getElem_inj hn).1 e1
      simp only [Ty.n_mk, dif_pos hnm, hix, hi, Option.getD_some]
    · have hfree : v ∉ names := hf v ((Sch.mem_free v).2 ⟨ho, hm⟩)
      rw [bfun_out (by rw [hv]; exact hm), Ty.subF_var rfl]
      show (if hm : v ∈ names then θ ((s.vs[names.findIdx fun x => x == v]?).getD 0) else vTy v) = θ v
      rw [dif_neg hfree]
      exact (h1 v hm).symm
  · rintro ⟨θ, h1, h2⟩
    rw [Ty.subF_subF] at h2
    refine ⟨fun v => if v ∈ s.vs then (bfun (callB s.vs names) v).subF θ else vTy v, fun v hvn => by simp only [if_neg hvn], ?_⟩
    rw [← h2]
    refine Ty.subF_congr _ fun v ho => ?_
    by_cases hm : v ∈ s.vs
    · simp only [if_pos hm]
    · have hfree : v ∉ names := hf v ((Sch.mem_free v).2 ⟨ho, hm⟩)
      simp only [if_neg hm]
      rw [bfun_out (by rw [hv]; exact hm), Ty.subF_var rfl]
      exact (h1 v hfree).symm
end Go.Proofs.YtheacaigeidflaaDoor
