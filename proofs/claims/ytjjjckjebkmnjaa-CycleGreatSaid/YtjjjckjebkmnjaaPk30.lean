/- Texts of the abstract walk, of the contracts and of the plain laws, packed (part 30 of 43): Right Types Ref11. Conditions: none. -/
import Derived.Test.YtjjjckjebkmnjaaPk29
namespace Go.Proofs.Ytjjjckjebkmnjaa
open Go Go.RowKit
set_option maxRecDepth 100000
set_option maxHeartbeats 4000000
set_option linter.unusedSimpArgs false
set_option linter.unusedVariables false
attribute [local irreducible] aops dRun
def okN (k n : Int) (len : Nat) : Bool :=
  decide ((k = 1 ∧ 0 ≤ n ∧ n < 1073741824 ∧ len = 0) ∨ (n = 0 ∧ (((k = 2 ∨ k = 3) ∧ len = 0) ∨ (k = 4 ∧ len = 2) ∨ (k = 5 ∧ 2 ≤ len ∧ len ≤ 8))))
mutual
def Ty.right : Ty → Bool
  | .mk k n ps => okN k n ps.length && Ty.rightL ps
def Ty.rightL : List Ty → Bool
  | [] => true
  | p :: ps => Ty.right p && Ty.rightL ps
end
theorem Ty.rightL_eq : ∀ ps, Ty.rightL ps = ps.all Ty.right
  | [] => by simp [Ty.rightL]
  | p :: ps => by simp [Ty.rightL, Ty.rightL_eq ps]
theorem Ty.right_eq (t : Ty) : t.right = (okN t.k t.n t.ps.length && t.ps.all Ty.right) := by cases t; simp [Ty.right, Ty.rightL_eq, Ty.k, Ty.n, Ty.ps]
theorem known_pure (n : Int) : APure Try.prog 95 [.v (.int .i64 n)] (.v (.bool (decide (0 ≤ n ∧ n < 1073741824)))) := by
  refine APure.mkL (.cons (.v _) .nil) (.v _) ?_
  refine ACalls_intro Try.func95 (by kernel_rfl) rfl (by rw [Try.ntmps95]; simp) (fun hm => ?_)
  simp only [Try.ntmps95, Try.results95, List.length_cons, List.length_nil, Nat.reduceAdd, Nat.reduceSub, List.replicate_succ, List.replicate_zero, List.cons_append, List.nil_append]
  refine AWp_seqK fun Y0 y0 => ?_
  refine AWp_region ?_
  simp only [↓bO, go_sem, seval]
  refine y0 _ ?_
  try clear y0 Y0
  refine AWp_seqK fun Y0 y0 => ?_
  refine AWp_region ?_
  refine aops_chunk 3 fun Q0 q0 => ?_
  simp only [↓bO, go_sem, seval]
  refine q0 _ ?_
  clear q0 Q0
  simp only [go_sem]
  refine aops_case 5 rfl (fun hc5 => ?_) (fun hc5 => ?_)
  ·
   simp only [List.set_cons_zero, List.set_cons_succ]
   simp only [↓bO, go_sem, seval]
   refine y0 _ ?_
   try clear y0 Y0
   refine AWp_ret ?_
   try simp only [thenQ, blockQ, noGotoQ, retQ, aRes, tupOf, bS, bA]
   refine Le.of_eq (congrArg (fun b => AV.v (.bool b)) ?_)
   simp at *; omega
  ·
   simp only [List.set_cons_zero, List.set_cons_succ]
   simp only [↓bO, go_sem, seval]
   refine y0 _ ?_
   try clear y0 Y0
   refine AWp_ret ?_
   try simp only [thenQ, blockQ, noGotoQ, retQ, aRes, tupOf, bS, bA]
   refine Le.of_eq (congrArg (fun b => AV.v (.bool b)) ?_)
   simp at *; omega
theorem plain_pure (T : Ty) : APure Try.prog 78 [.agg T.cells] (.v (.bool (okN T.k T.n T.ps.length))) := by
  refine APure.mkL (.cons T.dataAgg .nil) (.v _) ?_
  refine ACalls_intro Try.func78 (by kernel_rfl) rfl (by rw [Try.ntmps78]; simp) (fun hm => ?_)
  simp only [Try.ntmps78, Try.results78, List.length_cons, List.length_nil, Nat.reduceAdd, Nat.reduceSub, List.replicate_succ, List.replicate_zero, List.cons_append, List.nil_append]
  refine AWp_seqK fun Y0 y0 => ?_
  refine AWp_region ?_
  simp only [↓bO, go_sem, seval]
  refine y0 _ ?_
  try clear y0 Y0
  refine AWp_seqK fun Y0 y0 => ?_
  refine AWp_region ?_
  refine aops_chunk 3 fun Q0 q0 => ?_
  simp only [↓bO, go_sem, seval]
  refine q0 _ ?_
  clear q0 Q0
  simp only [go_sem]
  simp only [↓bO, go_sem, seval]
  refine y0 _ ?_
  try clear y0 Y0
  refine AWp_seqK fun Y0 y0 => ?_
  refine AWp_seqK fun Y1 y1 => ?_
  refine AWp_region ?_
  simp only [↓bO, go_sem, seval]
  refine y1 _ ?_
  try clear y1 Y1
  refine AWp_block ?_
  refine AWp_seqK fun Y1 y1 => ?_
  refine AWp_region ?_
  simp only [↓bO, go_sem, seval]
  refine y1 _ ?_
  try clear y1 Y1
  refine AWp_cond rfl (fun hb9 => ?_) (fun hb9 => ?_)
  ·
   refine AWp_seqK fun Y1 y1 => ?_
   refine AWp_region ?_
   refine aops_chunk 2 fun Q0 q0 => ?_
   simp only [↓bO, go_sem, seval]
   refine q0 _ ?_
   clear q0 Q0
   simp only [go_sem]
   refine aops_chunk 1 fun Q0 q0 => ?_
   simp only [↓bO, go_sem, seval]
   refine APure.call (known_pure T.n) ?_
   try simp only [bS, bA, thenQ, blockQ, noGotoQ]
   refine q0 _ ?_
   clear q0 Q0
   simp only [go_sem]
   refine aops_chunk 1 fun Q0 q0 => ?_
   simp only [↓bO, go_sem, seval]
   refine q0 _ ?_
   clear q0 Q0
   simp only [go_sem]
   refine aops_case 14 rfl (fun hc14 => ?_) (fun hc14 => ?_)
   ·
    simp only [List.set_cons_zero, List.set_cons_succ]
    refine aops_chunk 3 fun Q0 q0 => ?_
    simp only [↓bO, go_sem, seval]
    refine q0 _ ?_
    clear q0 Q0
    simp only [go_sem]
    simp only [↓bO, go_sem, seval]
    refine y1 _ ?_
    try clear y1 Y1
    refine AWp_ret ?_
    try simp only [thenQ, blockQ, noGotoQ, retQ, aRes, tupOf, bS, bA]
    refine Le.of_eq (congrArg (fun b => AV.v (.bool b)) ?_)
    rw [Bool.eq_iff_iff]
    simp only [okN, decide_eq_true_eq, beq_iff_eq, Bool.false_eq_true, beq_eq_false_iff_ne, ne_eq, decide_eq_false_iff_not, false_iff, true_iff, and_true, true_and] at *
    try omega
   ·
    simp only [List.set_cons_zero, List.set_cons_succ]
    refine aops_chunk 3 fun Q0 q0 => ?_
    simp only [↓bO, go_sem, seval]
    refine q0 _ ?_
    clear q0 Q0
    simp only [go_sem]
    simp only [↓bO, go_sem, seval]
    refine y1 _ ?_
    try clear y1 Y1
    refine AWp_ret ?_
    try simp only [thenQ, blockQ, noGotoQ, retQ, aRes, tupOf, bS, bA]
    refine Le.of_eq (congrArg (fun b => AV.v (.bool b)) ?_)
    rw [Bool.eq_iff_iff]
    simp only [okN, decide_eq_true_eq, beq_iff_eq, Bool.false_eq_true, beq_eq_false_iff_ne, ne_eq, decide_eq_false_iff_not, false_iff, true_iff, and_true, true_and] at *
    try omega
  ·
   refine AWp_seqK fun Y1 y1 => ?_
   refine AWp_seqK fun Y2 y2 => ?_
   refine AWp_region ?_
   simp only [↓bO, go_sem, seval]
   refine y2 _ ?_
   try clear y2 Y2
   refine AWp_cond rfl (fun hb18 => ?_) (fun hb18 => ?_)
   ·
    refine AWp_skip ?_
    try simp only [thenQ, blockQ, noGotoQ]
    refine y1 _ ?_
    try clear y1 Y1
    refine AWp_cond (b := true) (by first | exact rfl | exact congrArg (fun b => AV.v (.bool b)) hb18) (fun _ => ?_) (fun h => (by cases h))
    refine AWp_seqK fun Y1 y1 => ?_
    refine AWp_region ?_
    refine aops_chunk 3 fun Q0 q0 => ?_
    simp only [↓bO, go_sem, seval]
    refine q0 _ ?_
    clear q0 Q0
    simp only [go_sem]
    refine aops_chunk 1 fun Q0 q0 => ?_
    simp only [↓bO, go_sem, seval]
    refine q0 _ ?_
    clear q0 Q0
    simp only [go_sem]
    refine aops_case 24 rfl (fun hc24 => ?_) (fun hc24 => ?_)
    ·
     simp only [List.set_cons_zero, List.set_cons_succ]
     refine aops_chunk 3 fun Q0 q0 => ?_
     simp only [↓bO, go_sem, seval]
     refine q0 _ ?_
     clear q0 Q0
     simp only [go_sem]
     simp only [↓bO, go_sem, seval]
     refine y1 _ ?_
     try clear y1 Y1
     refine AWp_ret ?_
     try simp only [thenQ, blockQ, noGotoQ, retQ, aRes, tupOf, bS, bA]
     refine Le.of_eq (congrArg (fun b => AV.v (.bool b)) ?_)
     rw [Bool.eq_iff_iff]
     simp only [okN, decide_eq_true_eq, beq_iff_eq, Bool.false_eq_true, beq_eq_false_iff_ne, ne_eq, decide_eq_false_iff_not, false_iff, true_iff, and_true, true_and] at *
     try omega
    ·
     simp only [List.set_cons_zero, List.set_cons_succ]
     refine aops_chunk 3 fun Q0 q0 => ?_
     simp only [↓bO, go_sem, seval]
     refine q0 _ ?_
     clear q0 Q0
     simp only [go_sem]
     simp only [↓bO, go_sem, seval]
     refine y1 _ ?_
     try clear y1 Y1
     refine AWp_ret ?_
     try simp only [thenQ, blockQ, noGotoQ, retQ, aRes, tupOf, bS, bA]
     refine Le.of_eq (congrArg (fun b => AV.v (.bool b)) ?_)
     rw [Bool.eq_iff_iff]
     simp only [okN, decide_eq_true_eq, beq_iff_eq, Bool.false_eq_true, beq_eq_false_iff_ne, ne_eq, decide_eq_false_iff_not, false_iff, true_iff, and_true, true_and] at *
     try omega
   ·
    refine AWp_region ?_
    simp only [↓bO, go_sem, seval]
    refine y1 _ ?_
    try clear y1 Y1
    refine AWp_cond rfl (fun hb18 => ?_) (fun hb18 => ?_)
    ·
     refine AWp_seqK fun Y1 y1 => ?_
     refine AWp_region ?_
     refine aops_chunk 3 fun Q0 q0 => ?_
     simp only [↓bO, go_sem, seval]
     refine q0 _ ?_
     clear q0 Q0
     simp only [go_sem]
     refine aops_chunk 1 fun Q0 q0 => ?_
     simp only [↓bO, go_sem, seval]
     refine q0 _ ?_
     clear q0 Q0
     simp only [go_sem]
     refine aops_case 24 rfl (fun hc24 => ?_) (fun hc24 => ?_)
     ·
      simp only [List.set_cons_zero, List.set_cons_succ]
      refine aops_chunk 3 fun Q0 q0 => ?_
      simp only [↓bO, go_sem, seval]
      refine q0 _ ?_
      clear q0 Q0
      simp only [go_sem]
      simp only [↓bO, go_sem, seval]
      refine y1 _ ?_
      try clear y1 Y1
      refine AWp_ret ?_
      try simp only [thenQ, blockQ, noGotoQ, retQ, aRes, tupOf, bS, bA]
      refine Le.of_eq (congrArg (fun b => AV.v (.bool b)) ?_)
      rw [Bool.eq_iff_iff]
      simp only [okN, decide_eq_true_eq, beq_iff_eq, Bool.false_eq_true, beq_eq_false_iff_ne, ne_eq, decide_eq_false_iff_not, false_iff, true_iff, and_true, true_and] at *
      try omega
     ·
      simp only [List.set_cons_zero, List.set_cons_succ]
      refine aops_chunk 3 fun Q0 q0 => ?_
      simp only [↓bO, go_sem, seval]
      refine q0 _ ?_
      clear q0 Q0
      simp only [go_sem]
      simp only [↓bO, go_sem, seval]
      refine y1 _ ?_
      try clear y1 Y1
      refine AWp_ret ?_
      try simp only [thenQ, blockQ, noGotoQ, retQ, aRes, tupOf, bS, bA]
      refine Le.of_eq (congrArg (fun b => AV.v (.bool b)) ?_)
      rw [Bool.eq_iff_iff]
      simp only [okN, decide_eq_true_eq, beq_iff_eq, Bool.false_eq_true, beq_eq_false_iff_ne, ne_eq, decide_eq_false_iff_not, false_iff, true_iff, and_true, true_and] at *
      try omega
    ·
     refine AWp_seqK fun Y1 y1 => ?_
     refine AWp_region ?_
     simp only [↓bO, go_sem, seval]
     refine y1 _ ?_
     try clear y1 Y1
     refine AWp_cond rfl (fun hb28 => ?_) (fun hb28 => ?_)
     ·
      refine AWp_seqK fun Y1 y1 => ?_
      refine AWp_region ?_
      refine aops_chunk 3 fun Q0 q0 => ?_
      simp only [↓bO, go_sem, seval]
      refine q0 _ ?_
      clear q0 Q0
      simp only [go_sem]
      refine aops_chunk 1 fun Q0 q0 => ?_
      simp only [↓bO, go_sem, seval]
      refine q0 _ ?_
      clear q0 Q0
      simp only [go_sem]
      refine aops_case 33 rfl (fun hc33 => ?_) (fun hc33 => ?_)
      ·
       simp only [List.set_cons_zero, List.set_cons_succ]
       refine aops_chunk 3 fun Q0 q0 => ?_
       simp only [↓bO, go_sem, seval]
       refine q0 _ ?_
       clear q0 Q0
       simp only [go_sem]
       simp only [↓bO, go_sem, seval]
       refine y1 _ ?_
       try clear y1 Y1
       refine AWp_ret ?_
       try simp only [thenQ, blockQ, noGotoQ, retQ, aRes, tupOf, bS, bA]
       refine Le.of_eq (congrArg (fun b => AV.v (.bool b)) ?_)
       rw [Bool.eq_iff_iff]
       simp only [okN, decide_eq_true_eq, beq_iff_eq, Bool.false_eq_true, beq_eq_false_iff_ne, ne_eq, decide_eq_false_iff_not, false_iff, true_iff, and_true, true_and] at *
       try omega
      ·
       simp only [List.set_cons_zero, List.set_cons_succ]
       refine aops_chunk 3 fun Q0 q0 => ?_
       simp only [↓bO, go_sem, seval]
       refine q0 _ ?_
       clear q0 Q0
       simp only [go_sem]
       simp only [↓bO, go_sem, seval]
       refine y1 _ ?_
       try clear y1 Y1
       refine AWp_ret ?_
       try simp only [thenQ, blockQ, noGotoQ, retQ, aRes, tupOf, bS, bA]
       refine Le.of_eq (congrArg (fun b => AV.v (.bool b)) ?_)
       rw [Bool.eq_iff_iff]
       simp only [okN, decide_eq_true_eq, beq_iff_eq, Bool.false_eq_true, beq_eq_false_iff_ne, ne_eq, decide_eq_false_iff_not, false_iff, true_iff, and_true, true_and] at *
       try omega
     ·
      refine AWp_seqK fun Y1 y1 => ?_
      refine AWp_region ?_
      simp only [↓bO, go_sem, seval]
      refine y1 _ ?_
      try clear y1 Y1
      refine AWp_cond rfl (fun hb37 => ?_) (fun hb37 => ?_)
      ·
       refine AWp_seqK fun Y1 y1 => ?_
       refine AWp_region ?_
       refine aops_chunk 3 fun Q0 q0 => ?_
       simp only [↓bO, go_sem, seval]
       refine q0 _ ?_
       clear q0 Q0
       simp only [go_sem]
       refine aops_chunk 1 fun Q0 q0 => ?_
       simp only [↓bO, go_sem, seval]
       refine q0 _ ?_
       clear q0 Q0
       simp only [go_sem]
       refine aops_case 42 rfl (fun hc42 => ?_) (fun hc42 => ?_)
       ·
        simp only [List.set_cons_zero, List.set_cons_succ]
        refine aops_chunk 3 fun Q0 q0 => ?_
        simp only [↓bO, go_sem, seval]
        refine q0 _ ?_
        clear q0 Q0
        simp only [go_sem]
        refine aops_chunk 1 fun Q0 q0 => ?_
        simp only [↓bO, go_sem, seval]
        refine q0 _ ?_
        clear q0 Q0
        simp only [go_sem]
        refine aops_case 46 rfl (fun hc46 => ?_) (fun hc46 => ?_)
        ·
         simp only [List.set_cons_zero, List.set_cons_succ]
         refine aops_chunk 3 fun Q0 q0 => ?_
         simp only [↓bO, go_sem, seval]
         refine q0 _ ?_
         clear q0 Q0
         simp only [go_sem]
         simp only [↓bO, go_sem, seval]
         refine y1 _ ?_
         try clear y1 Y1
         refine AWp_ret ?_
         try simp only [thenQ, blockQ, noGotoQ, retQ, aRes, tupOf, bS, bA]
         refine Le.of_eq (congrArg (fun b => AV.v (.bool b)) ?_)
         rw [Bool.eq_iff_iff]
         simp only [okN, decide_eq_true_eq, beq_iff_eq, Bool.false_eq_true, beq_eq_false_iff_ne, ne_eq, decide_eq_false_iff_not, false_iff, true_iff, and_true, true_and] at *
         try omega
        ·
         simp only [List.set_cons_zero, List.set_cons_succ]
         refine aops_chunk 3 fun Q0 q0 => ?_
         simp only [↓bO, go_sem, seval]
         refine q0 _ ?_
         clear q0 Q0
         simp only [go_sem]
         simp only [↓bO, go_sem, seval]
         refine y1 _ ?_
         try clear y1 Y1
         refine AWp_ret ?_
         try simp only [thenQ, blockQ, noGotoQ, retQ, aRes, tupOf, bS, bA]
         refine Le.of_eq (congrArg (fun b => AV.v (.bool b)) ?_)
         rw [Bool.eq_iff_iff]
         simp only [okN, decide_eq_true_eq, beq_iff_eq, Bool.false_eq_true, beq_eq_false_iff_ne, ne_eq, decide_eq_false_iff_not, false_iff, true_iff, and_true, true_and] at *
         try omega
       ·
        simp only [List.set_cons_zero, List.set_cons_succ]
        iterate 2 (refine aops_chunk 3 fun Q0 q0 => ?_; simp only [↓bO, go_sem, seval]; refine q0 _ ?_; clear q0 Q0; simp only [go_sem])
        simp only [↓bO, go_sem, seval]
        refine y1 _ ?_
        try clear y1 Y1
        refine AWp_ret ?_
        try simp only [thenQ, blockQ, noGotoQ, retQ, aRes, tupOf, bS, bA]
        refine Le.of_eq (congrArg (fun b => AV.v (.bool b)) ?_)
        rw [Bool.eq_iff_iff]
        simp only [okN, decide_eq_true_eq, beq_iff_eq, Bool.false_eq_true, beq_eq_false_iff_ne, ne_eq, decide_eq_false_iff_not, false_iff, true_iff, and_true, true_and] at *
        try omega
      ·
       refine AWp_skip ?_
       try simp only [thenQ, blockQ, noGotoQ]
       refine y0 _ ?_
       try clear y0 Y0
       refine AWp_seqK fun Y0 y0 => ?_
       refine AWp_region ?_
       simp only [↓bO, go_sem, seval]
       refine y0 _ ?_
       try clear y0 Y0
       refine AWp_ret ?_
       try simp only [thenQ, blockQ, noGotoQ, retQ, aRes, tupOf, bS, bA]
       refine Le.of_eq (congrArg (fun b => AV.v (.bool b)) ?_)
       rw [Bool.eq_iff_iff]
       simp only [okN, decide_eq_true_eq, beq_iff_eq, Bool.false_eq_true, beq_eq_false_iff_ne, ne_eq, decide_eq_false_iff_not, false_iff, true_iff, and_true, true_and] at *
       try omega
theorem all_not_of {α : Type} {f : α → Bool} {ps : List α} {i : Nat} {p : α} (hp : ps[i]? = some p) (h : f p = true) : ps.any f = true := List.any_eq_true.2 ⟨p, List.mem_of_getElem? hp, h⟩
theorem any_false_of {α : Type} {f : α → Bool} {ps : List α} (h : ∀ (i : Nat) (p : α), i < ps.length → ps[i]? = some p → f p = false) : ps.any f = false := by
  rw [← Bool.not_eq_true, List.any_eq_true]
  rintro ⟨p, hp, hf⟩
  obtain ⟨i, hi, e⟩ := List.mem_iff_getElem.1 hp
  rw [h i p hi (by rw [List.getElem?_eq_getElem hi, e])] at hf; cases hf
def idxI {α : Type} (g : α → Bool) (l : List α) : Int := if l.any g then (l.findIdx g : Int) else -1
theorem idxI_some {α : Type} {g : α → Bool} {l : List α} {i : Nat} {p : α} (hp : l[i]? = some p) (h : g p = true) (hb : ∀ (j : Nat) (q : α), j < i → l[j]? = some q → g q = false) : idxI g l = (i : Int) := by
  have hi : i < l.length := (List.getElem?_eq_some_iff.1 hp).1
  have e : l[i] = p := (List.getElem?_eq_some_iff.1 hp).2
  rw [idxI, if_pos (all_not_of hp h)]
  congr 1
  refine List.findIdx_eq hi |>.2 ⟨by rw [e]; exact h, fun j hj => ?_⟩
  exact hb j _ hj (List.getElem?_eq_getElem (by omega))
theorem idxI_none {α : Type} {g : α → Bool} {l : List α} (hb : ∀ (j : Nat) (q : α), j < l.length → l[j]? = some q → g q = false) : idxI g l = -1 := by
  rw [idxI, any_false_of hb]; rfl
theorem idxI_ge {α : Type} {g : α → Bool} {l : List α} : decide (idxI g l ≥ 0) = l.any g := by
  unfold idxI
  split
  · rename_i h; rw [h]; simp
  · rename_i h; simp at h; simp; exact h
theorem IndexFuncTy_pure (ps : List Ty) (g : Nat) (f : Ty → Bool) (hf : ∀ p ∈ ps, APure Try.prog g [.agg p.cells] (.v (.bool (f p)))) : APure Try.prog 96 [.sl 3 (ps.map Ty.cells), .clo g []] (.v (.int .i64 (idxI f ps))) := by
  refine APure.mkL (.cons (Ty.dataSl ps) (.cons (.clo (fun _ h => by cases h)) .nil)) (.v _) ?_
  refine ACalls_intro Try.func96 (by kernel_rfl) rfl (by rw [Try.ntmps96]; simp) (fun hm => ?_)
  simp only [Try.ntmps96, Try.results96, List.length_cons, List.length_nil, Nat.reduceAdd, Nat.reduceSub, List.replicate_succ, List.replicate_zero, List.cons_append, List.nil_append]
  have hm1 := hm.len (sz := 3) (xs := ps.map Ty.cells) (by simp)
  rw [List.length_map] at hm1
  have hm2 : ∀ i : Nat, i < ps.length → IntKind.i64.wrap ((i : Int) + 1) = (i : Int) + 1 := fun i hi => wrap_in (by omega) (by simp only [maxLen] at hm1; omega)
  refine AWp_seqK fun Y0 y0 => ?_
  refine AWp_region ?_
  simp only [↓bO, go_sem, seval]
  refine y0 _ ?_
  try clear y0 Y0
  refine AWp_seqK fun Y0 y0 => ?_
  refine AWp_seqK fun Y1 y1 => ?_
  refine AWp_region ?_
  simp only [↓bO, go_sem, seval]
  refine y1 _ ?_
  try clear y1 Y1
  refine AWp_block ?_
  refine AWp_loopM (σ := Nat) (mB 19 387) (fun s => s ≤ ps.length ∧ ∀ (i : Nat) (p : Ty), i < s → ps[i]? = some p → f p = false) (fun s => [(8, .v (.int .i64 (s : Int)))]) (fun s => []) (fun s => ps.length - s) 0 (⟨by omega, fun i p hi => by omega⟩) ?_ (fun s hs => ?_)
  ·
   simp only [maskL, setsL, putsO, putO, mB, List.set_cons_zero, List.set_cons_succ, seval]
   exact Weak.mk (by simp only [go_sem, Le.refl, Le.any, Le.slNil, Int.natCast_add, Int.cast_ofNat_Int, Int.natCast_one]) (fun _ _ h => h) rfl rfl
  simp only [maskL, setsL, putsO, putO, mB, List.set_cons_zero, List.set_cons_succ, seval]
  refine AWp_seqK fun Y1 y1 => ?_
  refine AWp_region ?_
  simp only [↓bO, go_sem, seval]
  refine y1 _ ?_
  try clear y1 Y1
  refine AWp_seqK fun Y1 y1 => ?_
  refine AWp_cond rfl (fun hb9 => ?_) (fun hb9 => ?_)
  ·
   have hk : s < ps.length := by simpa using hb9
   obtain ⟨p, hp⟩ : ∃ p, ps[s]? = some p := ⟨_, List.getElem?_eq_getElem hk⟩
   have hw := hm2 s hk
   refine AWp_skip ?_
   try simp only [thenQ, blockQ, noGotoQ]
   refine y1 _ ?_
   try clear y1 Y1
   refine AWp_seqK fun Y1 y1 => ?_
   refine AWp_block ?_
   refine AWp_seqK fun Y2 y2 => ?_
   refine AWp_region ?_
   simp only [↓bO, go_sem, seval, hk, gM hp, Int.natCast_add, hw]
   refine y2 _ ?_
   try clear y2 Y2
   refine AWp_seqK fun Y2 y2 => ?_
   refine AWp_region ?_
   refine aops_chunk 4 fun Q0 q0 => ?_
   simp only [↓bO, go_sem, seval, hk, gM hp, Int.natCast_add, hw]
   refine q0 _ ?_
   clear q0 Q0
   simp only [go_sem]
   refine aops_chunk 1 fun Q0 q0 => ?_
   simp only [↓bO, go_sem, seval, hk, gM hp, Int.natCast_add, hw]
   refine q0 _ ?_
   clear q0 Q0
   simp only [go_sem]
   simp only [↓bO, go_sem, seval, hk, gM hp, Int.natCast_add, hw]
   refine APure.call (hf p (List.mem_of_getElem? hp)) ?_
   try simp only [bS, bA, thenQ, blockQ, noGotoQ]
   refine y2 _ ?_
   try clear y2 Y2
   refine AWp_cond rfl (fun hb16 => ?_) (fun hb16 => ?_)
   ·
    refine AWp_seqK fun Y2 y2 => ?_
    refine AWp_region ?_
    simp only [↓bO, go_sem, seval, hk, gM hp, Int.natCast_add, hw]
    refine y2 _ ?_
    try clear y2 Y2
    refine AWp_ret ?_
    try simp only [thenQ, blockQ, noGotoQ, retQ, aRes, tupOf, bS, bA]
    refine Le.of_eq (congrArg (fun n => AV.v (.int .i64 n)) ?_)
    first | (rw [idxI_some hp (by exact hb16) hs.2]; done) | (rw [idxI_none (fun i p hi h1 => hs.2 i p (by omega) h1)]; done)
   ·
    refine AWp_skip ?_
    try simp only [thenQ, blockQ, noGotoQ]
    refine y1 _ ?_
    try clear y1 Y1
    refine AWp_region ?_
    simp only [↓bO, go_sem, seval, hk, gM hp, Int.natCast_add, hw]
    refine ⟨(s + 1), ⟨by omega, fun i p' hi h1 => (by rcases Nat.lt_or_ge i s with h3 | h3 <;> first | exact hs.2 i p' h3 h1 | (obtain rfl : i = s := (by omega); rw [hp] at h1; cases h1; exact hb16))⟩, by omega, ?_⟩
    simp only [maskL, setsL, putsO, putO, mB, List.set_cons_zero, List.set_cons_succ, seval, hk, gM hp, Int.natCast_add, Int.natCast_one, hw]
    exact Weak.mk (by simp only [go_sem, Le.refl, Le.any, Le.slNil, Int.natCast_add, Int.cast_ofNat_Int, Int.natCast_one]) (fun _ _ h => h) rfl rfl
  ·
   have hk : s = ps.length := by have := hs.1; simp at hb9; omega
   refine AWp_exit ?_
   simp only [thenQ, blockQ, noGotoQ, bA, Nat.reduceEqDiff, ↓reduceIte]
   refine y0 _ ?_
   try clear y0 Y0
   refine AWp_seqK fun Y0 y0 => ?_
   refine AWp_region ?_
   simp only [↓bO, go_sem, seval]
   refine y0 _ ?_
   try clear y0 Y0
   refine AWp_ret ?_
   try simp only [thenQ, blockQ, noGotoQ, retQ, aRes, tupOf, bS, bA]
   refine Le.of_eq (congrArg (fun n => AV.v (.int .i64 n)) ?_)
   first | (rw [idxI_some hp (by exact hb16) hs.2]; done) | (rw [idxI_none (fun i p hi h1 => hs.2 i p (by omega) h1)]; done)
theorem ContainsFuncTy_pure (ps : List Ty) (g : Nat) (f : Ty → Bool) (hf : ∀ p ∈ ps, APure Try.prog g [.agg p.cells] (.v (.bool (f p)))) : APure Try.prog 79 [.sl 3 (ps.map Ty.cells), .clo g []] (.v (.bool (ps.any f))) := by
  refine APure.mkL (.cons (Ty.dataSl ps) (.cons (.clo (fun _ h => by cases h)) .nil)) (.v _) ?_
  refine ACalls_intro Try.func79 (by kernel_rfl) rfl (by rw [Try.ntmps79]; simp) (fun hm => ?_)
  simp only [Try.ntmps79, Try.results79, List.length_cons, List.length_nil, Nat.reduceAdd, Nat.reduceSub, List.replicate_succ, List.replicate_zero, List.cons_append, List.nil_append]
  refine AWp_seqK fun Y0 y0 => ?_
  refine AWp_region ?_
  simp only [↓bO, go_sem, seval, idxI_ge]
  refine y0 _ ?_
  try clear y0 Y0
  refine AWp_seqK fun Y0 y0 => ?_
  refine AWp_region ?_
  refine aops_chunk 2 fun Q0 q0 => ?_
  simp only [↓bO, go_sem, seval, idxI_ge]
  refine q0 _ ?_
  clear q0 Q0
  simp only [go_sem]
  refine aops_chunk 1 fun Q0 q0 => ?_
  simp only [↓bO, go_sem, seval, idxI_ge]
  refine APure.call (IndexFuncTy_pure ps g f hf) ?_
  try simp only [bS, bA, thenQ, blockQ, noGotoQ]
  refine q0 _ ?_
  clear q0 Q0
  simp only [go_sem]
  simp only [↓bO, go_sem, seval, idxI_ge]
  refine y0 _ ?_
  try clear y0 Y0
  refine AWp_ret ?_
  try simp only [thenQ, blockQ, noGotoQ, retQ, aRes, tupOf, bS, bA]
  exact Le.refl _
theorem Right1_pure {p : Ty} (h : APure Try.prog 51 [.agg p.cells] (.v (.bool p.right))) : APure Try.prog 80 [.agg p.cells] (.v (.bool (!p.right))) := by
  refine APure.mkL (.cons p.dataAgg .nil) (.v _) ?_
  refine ACalls_intro Try.func80 (by kernel_rfl) rfl (by rw [Try.ntmps80]; simp) (fun hm => ?_)
  simp only [Try.ntmps80, Try.results80, List.length_cons, List.length_nil, Nat.reduceAdd, Nat.reduceSub, List.replicate_succ, List.replicate_zero, List.cons_append, List.nil_append]
  refine AWp_seqK fun Y0 y0 => ?_
  refine AWp_region ?_
  simp only [↓bO, go_sem, seval]
  refine y0 _ ?_
  try clear y0 Y0
  refine AWp_seqK fun Y0 y0 => ?_
  refine AWp_region ?_
  refine aops_chunk 1 fun Q0 q0 => ?_
  simp only [↓bO, go_sem, seval]
  refine q0 _ ?_
  clear q0 Q0
  simp only [go_sem]
  refine aops_chunk 1 fun Q0 q0 => ?_
  simp only [↓bO, go_sem, seval]
  refine APure.call (h) ?_
  try simp only [bS, bA, thenQ, blockQ, noGotoQ]
  refine q0 _ ?_
  clear q0 Q0
  simp only [go_sem]
  simp only [↓bO, go_sem, seval]
  refine y0 _ ?_
  try clear y0 Y0
  refine AWp_ret ?_
  try simp only [thenQ, blockQ, noGotoQ, retQ, aRes, tupOf, bS, bA]
  exact Le.refl _
theorem Right_pure : ∀ (T : Ty), APure Try.prog 51 [.agg T.cells] (.v (.bool T.right)) := by
  refine Ty.ind fun T ih => ?_
  refine APure.mkL (.cons T.dataAgg .nil) (.v _) ?_
  refine ACalls_intro Try.func51 (by kernel_rfl) rfl (by rw [Try.ntmps51]; simp) (fun hm => ?_)
  simp only [Try.ntmps51, Try.results51, List.length_cons, List.length_nil, Nat.reduceAdd, Nat.reduceSub, List.replicate_succ, List.replicate_zero, List.cons_append, List.nil_append]
  refine AWp_seqK fun Y0 y0 => ?_
  refine AWp_region ?_
  simp only [↓bO, go_sem, seval]
  refine y0 _ ?_
  try clear y0 Y0
  refine AWp_seqK fun Y0 y0 => ?_
  refine AWp_region ?_
  refine aops_chunk 1 fun Q0 q0 => ?_
  simp only [↓bO, go_sem, seval]
  refine q0 _ ?_
  clear q0 Q0
  simp only [go_sem]
  refine aops_chunk 1 fun Q0 q0 => ?_
  simp only [↓bO, go_sem, seval]
  refine APure.call (plain_pure T) ?_
  try simp only [bS, bA, thenQ, blockQ, noGotoQ]
  refine q0 _ ?_
  clear q0 Q0
  simp only [go_sem]
  refine aops_chunk 1 fun Q0 q0 => ?_
  simp only [↓bO, go_sem, seval]
  refine q0 _ ?_
  clear q0 Q0
  simp only [go_sem]
  refine aops_case 5 rfl (fun hc5 => ?_) (fun hc5 => ?_)
  ·
   simp only [List.set_cons_zero, List.set_cons_succ]
   refine aops_chunk 2 fun Q0 q0 => ?_
   simp only [↓bO, go_sem, seval]
   refine q0 _ ?_
   clear q0 Q0
   simp only [go_sem]
   refine aops_chunk 1 fun Q0 q0 => ?_
   simp only [↓bO, go_sem, seval]
   refine APure.call (ContainsFuncTy_pure T.ps 80 (fun p => !p.right) (fun p hp => Right1_pure (ih p hp))) ?_
   try simp only [bS, bA, thenQ, blockQ, noGotoQ]
   refine q0 _ ?_
   clear q0 Q0
   simp only [go_sem]
   simp only [↓bO, go_sem, seval]
   refine y0 _ ?_
   try clear y0 Y0
   refine AWp_ret ?_
   try simp only [thenQ, blockQ, noGotoQ, retQ, aRes, tupOf, bS, bA]
   refine Le.of_eq (congrArg (fun b => AV.v (.bool b)) ?_)
   rw [Ty.right_eq]
   first | (simp only [hc5]; rfl) | (simp only [hc5, Bool.true_and]; simp [List.not_any_eq_all_not])
  ·
   simp only [List.set_cons_zero, List.set_cons_succ]
   refine aops_chunk 4 fun Q0 q0 => ?_
   simp only [↓bO, go_sem, seval]
   refine q0 _ ?_
   clear q0 Q0
   simp only [go_sem]
   simp only [↓bO, go_sem, seval]
   refine y0 _ ?_
   try clear y0 Y0
   refine AWp_ret ?_
   try simp only [thenQ, blockQ, noGotoQ, retQ, aRes, tupOf, bS, bA]
   refine Le.of_eq (congrArg (fun b => AV.v (.bool b)) ?_)
   rw [Ty.right_eq]
   first | (simp only [hc5]; rfl) | (simp only [hc5, Bool.true_and]; simp [List.not_any_eq_all_not])
end Go.Proofs.Ytjjjckjebkmnjaa
namespace Go.Proofs.Ytjjjckjebkmnjaa
open Go Go.RowKit
set_option maxRecDepth 100000
set_option maxHeartbeats 4000000
set_option linter.unusedSimpArgs false
set_option linter.unusedVariables false
attribute [local irreducible] aops dRun
mutual
/-- a type whose variables have other numbers -/
def Ty.mapV (f : Int → Int) : Ty → Ty
  | .mk k n ps => .mk k (if k = 1 then f n else n) (Ty.mapVL f ps)
def Ty.mapVL (f : Int → Int) : List Ty → List Ty
  | [] => []
  | p :: ps => Ty.mapV f p :: Ty.mapVL f ps
end
theorem Ty.mapVL_eq (f : Int → Int) : ∀ ps, Ty.mapVL f ps = ps.map (Ty.mapV f)
  | [] => by simp [Ty.mapVL]
  | p :: ps => by simp [Ty.mapVL, Ty.mapVL_eq f ps]
theorem Ty.mapV_eq (f : Int → Int) (t : Ty) : t.mapV f = .mk t.k (if t.k = 1 then f t.n else t.n) (t.ps.map (Ty.mapV f)) := by
  cases t; rw [Ty.mapV, Ty.mapVL_eq]; rfl
theorem Ty.eta (t : Ty) : Ty.mk t.k t.n t.ps = t := by cases t; rfl
theorem Ty.mapV_id : ∀ t : Ty, t.mapV (fun n => n) = t := by
  refine Ty.ind fun t ih => ?_
  rw [Ty.mapV_eq]
  have e : t.ps.map (Ty.mapV fun n => n) = t.ps := by conv => rhs; rw [← List.map_id t.ps]
                                                      exact List.map_congr_left ih
  rw [e]; simp [Ty.eta]
mutual
def Ty.cnt : Ty → Nat
  | .mk _ _ ps => 1 + Ty.cntL ps
def Ty.cntL : List Ty → Nat
  | [] => 0
  | p :: ps => Ty.cnt p + Ty.cntL ps
end
theorem Ty.cnt_eq (t : Ty) : t.cnt = 1 + Ty.cntL t.ps := by cases t; simp [Ty.cnt, Ty.ps]
theorem Ty.cntL_append : ∀ (ps qs : List Ty), Ty.cntL (ps ++ qs) = Ty.cntL ps + Ty.cntL qs
  | [], qs => by simp [Ty.cntL]
  | p :: ps, qs => by simp [Ty.cntL, Ty.cntL_append ps qs]; omega
theorem Ty.cntL_step {ps : List Ty} {s : Nat} {p : Ty} (hp : ps[s]? = some p) : Ty.cntL (ps.take s) + p.cnt ≤ Ty.cntL ps := by
  have h1 : Ty.cntL (ps.take (s + 1)) = Ty.cntL (ps.take s) + p.cnt := by rw [List.take_add_one, hp, Ty.cntL_append]; simp [Ty.cntL]
  have h2 : Ty.cntL ps = Ty.cntL (ps.take (s + 1)) + Ty.cntL (ps.drop (s + 1)) := by rw [← Ty.cntL_append, List.take_append_drop]
  omega
theorem Ty.cntL_len : ∀ ps, ps.length ≤ Ty.cntL ps
  | [] => by simp
  | p :: ps => by
    have := Ty.cntL_len ps
    have h2 : 1 ≤ p.cnt := by rw [Ty.cnt_eq]; omega
    simp [Ty.cntL]; omega
theorem take_map_step {α β : Type} (f : α → β) {ps : List α} {s : Nat} {p : α} (hp : ps[s]? = some p) : (ps.take (s + 1)).map f = (ps.take s).map f ++ [f p] := by
  rw [List.take_add_one, hp]; simp
theorem Ty.cnt_mem {p : Ty} : ∀ {ps : List Ty}, p ∈ ps → p.cnt ≤ Ty.cntL ps
  | q :: ps, h => by
    simp only [Ty.cntL]
    rcases List.mem_cons.1 h with rfl | h
    · omega
    · have := Ty.cnt_mem h; omega
theorem TVar_pure (n : Int) : APure Try.prog 43 [.v (.int .i64 n)] (.agg (Ty.mk 1 n []).cells) := by
  refine APure.mkL (.cons (.v _) .nil) ((Ty.dataAgg _)) ?_
  refine ACalls_intro Try.func43 (by kernel_rfl) rfl (by rw [Try.ntmps43]; simp) (fun hm => ?_)
  simp only [Try.ntmps43, Try.results43, List.length_cons, List.length_nil, Nat.reduceAdd, Nat.reduceSub, List.replicate_succ, List.replicate_zero, List.cons_append, List.nil_append]
  iterate 2 (refine AWp_seqK fun Y0 y0 => ?_; refine AWp_region ?_; simp only [↓bO, go_sem, seval]; refine y0 _ ?_; (try clear y0 Y0))
  refine AWp_ret ?_
  try simp only [thenQ, blockQ, noGotoQ, retQ, aRes, tupOf, bS, bA, aLoad, getO, pack, bL, Nat.reduceAdd, Nat.reduceLeDiff, Nat.reduceEqDiff, ↓reduceIte, ti30, tyX]
  refine Le.agg ?_
  rw [Ty.cells_eq]
  exact ⟨.refl _, .refl _, Le.slNil 3, trivial⟩
theorem change_pure : ∀ (T : Ty) (g : Nat) (caps : List AV) (φ : Int → Int) (hd : DataL caps) (hφ : ∀ n : Int, APure Try.prog g (.v (.int .i64 n) :: caps) (.v (.int .i64 (φ n)))) (hT : T.cnt ≤ 1099511627776), APure Try.prog 91 [.agg T.cells, .clo g caps] (.agg (T.mapV φ).cells) := by
  refine Ty.ind fun T ih => ?_
  intro g caps φ hd hφ hT
  refine APure.mkL (.cons T.dataAgg (.cons (.clo hd) .nil)) ((Ty.dataAgg _)) ?_
  refine ACalls_intro Try.func91 (by kernel_rfl) rfl (by rw [Try.ntmps91]; simp) (fun hm => ?_)
  simp only [Try.ntmps91, Try.results91, List.length_cons, List.length_nil, Nat.reduceAdd, Nat.reduceSub, List.replicate_succ, List.replicate_zero, List.cons_append, List.nil_append]
  have hm1 := hm.wide (t := T) (by simp)
  have hcn := T.cnt_eq
  have hcl := Ty.cntL_len T.ps
  simp only [Ty.cells_eq T, List.cons_append, List.nil_append]
  refine AWp_seqK fun Y0 y0 => ?_
  refine AWp_region ?_
  simp only [↓bO, go_sem, seval]
  refine y0 _ ?_
  try clear y0 Y0
  refine AWp_joinM (mB 33 22) ([]) ([(0, .cells 30 [.v (.int .i64 T.k), .v (.int .i64 (if T.k = 1 then φ T.n else T.n)), .sl 3 (T.ps.map Ty.cells)])]) ?_ ?_
  ·
   refine AWp_seqK fun Y0 y0 => ?_
   refine AWp_region ?_
   simp only [↓bO, go_sem, seval]
   refine y0 _ ?_
   try clear y0 Y0
   refine AWp_cond rfl (fun hb10 => ?_) (fun hb10 => ?_)
   ·
    refine AWp_region ?_
    refine aops_chunk 3 fun Q0 q0 => ?_
    simp only [↓bO, go_sem, seval]
    refine q0 _ ?_
    clear q0 Q0
    simp only [go_sem]
    refine aops_chunk 1 fun Q0 q0 => ?_
    simp only [↓bO, go_sem, seval]
    refine APure.call ((hφ T.n)) ?_
    try simp only [bS, bA, thenQ, blockQ, noGotoQ]
    refine q0 _ ?_
    clear q0 Q0
    simp only [go_sem]
    simp only [↓bO, go_sem, seval]
    try simp only [maskL, setsL, putsO, putO, mB, List.set_cons_zero, List.set_cons_succ, seval]
    first | rw [if_pos (by simpa using hb10)] | rw [if_neg (by simpa using hb10)]
    exact Weak.mk (by simp only [go_sem, Le.refl, Le.any]) (fun _ _ h => h) rfl rfl
   ·
    refine AWp_skip ?_
    try simp only [thenQ, blockQ, noGotoQ]
    try simp only [maskL, setsL, putsO, putO, mB, List.set_cons_zero, List.set_cons_succ, seval]
    first | rw [if_pos (by simpa using hb10)] | rw [if_neg (by simpa using hb10)]
    exact Weak.mk (by simp only [go_sem, Le.refl, Le.any]) (fun _ _ h => h) rfl rfl
  simp only [maskL, setsL, putsO, putO, mB, List.set_cons_zero, List.set_cons_succ, seval]
  refine AWp_seqK fun Y0 y0 => ?_
  refine AWp_region ?_
  simp only [↓bO, go_sem, seval]
  refine y0 _ ?_
  try clear y0 Y0
  refine AWp_seqK fun Y0 y0 => ?_
  refine AWp_seqK fun Y1 y1 => ?_
  refine AWp_region ?_
  simp only [↓bO, go_sem, seval]
  refine y1 _ ?_
  try clear y1 Y1
  refine AWp_block ?_
  refine AWp_weak (Weak.tokSlot 5 30 3 rfl) ?_
  simp only [List.set_cons_zero, List.set_cons_succ]
  refine AWp_loopM (σ := Nat) (mB 33 917558) (fun s => s ≤ T.ps.length) (fun s => [(5, .osl 2 3 (((T.ps.take s).map (Ty.mapV φ)).map Ty.cells)), (19, .v (.int .i64 (s : Int)))]) (fun s => [(2, .tok 30 3 s)]) (fun s => T.ps.length - s) 0 (by omega) ?_ (fun s hs => ?_)
  ·
   simp only [maskL, setsL, putsO, putO, mB, List.set_cons_zero, List.set_cons_succ, seval, bL]
   exact Weak.mk (by simp only [go_sem, Le.refl, Le.any, Le.slNil, Int.natCast_add, Int.cast_ofNat_Int, Int.natCast_one]) (fun _ _ h => h) rfl rfl
  simp only [maskL, setsL, putsO, putO, mB, List.set_cons_zero, List.set_cons_succ, seval]
  refine AWp_seqK fun Y1 y1 => ?_
  refine AWp_region ?_
  simp only [↓bO, go_sem, seval]
  refine y1 _ ?_
  try clear y1 Y1
  refine AWp_seqK fun Y1 y1 => ?_
  refine AWp_cond rfl (fun hb20 => ?_) (fun hb20 => ?_)
  ·
   have hk : s < T.ps.length := by simpa using hb20
   obtain ⟨p, hp⟩ : ∃ p, T.ps[s]? = some p := ⟨_, List.getElem?_eq_getElem hk⟩
   have hpm := Ty.cnt_mem (List.mem_of_getElem? hp)
   have hw : IntKind.i64.wrap ((s : Int) + 1) = (s : Int) + 1 := wrap_in (by omega) (by omega)
   have hln : (((T.ps.take s).map (Ty.mapV φ)).map Ty.cells).length = s := by simp; omega
   have hb1 : (s + 1) * 40 ≤ 140737488355328 := by omega
   have hb2 : s + 1 ≤ maxLen := by simp only [maxLen]; omega
   refine AWp_skip ?_
   try simp only [thenQ, blockQ, noGotoQ]
   refine y1 _ ?_
   try clear y1 Y1
   refine AWp_seqK fun Y1 y1 => ?_
   refine AWp_block ?_
   refine AWp_seqK fun Y2 y2 => ?_
   refine AWp_region ?_
   simp only [↓bO, go_sem, seval, hk, gM hp, Int.natCast_add, hw, hln, hb1, hb2, List.map_append, take_map_step (Ty.mapV φ) hp]
   refine y2 _ ?_
   try clear y2 Y2
   refine AWp_region ?_
   refine aops_chunk 3 fun Q0 q0 => ?_
   simp only [↓bO, go_sem, seval, hk, gM hp, Int.natCast_add, hw, hln, hb1, hb2, List.map_append, take_map_step (Ty.mapV φ) hp]
   refine q0 _ ?_
   clear q0 Q0
   simp only [go_sem]
   refine aops_chunk 1 fun Q0 q0 => ?_
   simp only [↓bO, go_sem, seval, hk, gM hp, Int.natCast_add, hw, hln, hb1, hb2, List.map_append, take_map_step (Ty.mapV φ) hp]
   refine APure.call (ih p (List.mem_of_getElem? hp) g caps φ hd hφ (by omega)) ?_
   try simp only [bS, bA, thenQ, blockQ, noGotoQ]
   refine q0 _ ?_
   clear q0 Q0
   simp only [go_sem]
   simp only [↓bO, go_sem, seval, ↓bs1_1, ↓bs1_2, ↓bs1_3, ↓bs1_4, ↓bs1_5, ↓bs1_6, ↓bs1_7, ↓bs1_8, ↓bs1_9, ↓bs1_10, ↓bs1_11, ↓bs1_12, hk, gM hp, Int.natCast_add, hw, hln, hb1, hb2, List.map_append, take_map_step (Ty.mapV φ) hp]
   refine y1 _ ?_
   try clear y1 Y1
   refine AWp_region ?_
   simp only [↓bO, go_sem, seval, hk, gM hp, Int.natCast_add, hw, hln, hb1, hb2, List.map_append, take_map_step (Ty.mapV φ) hp]
   refine ⟨(s + 1), (by omega), by omega, ?_⟩
   simp only [maskL, setsL, putsO, putO, mB, List.set_cons_zero, List.set_cons_succ, seval, hk, gM hp, Int.natCast_add, Int.natCast_one, hw, hln, hb1, hb2, List.map_append, bL, take_map_step (Ty.mapV φ) hp]
   first | (refine Weak.drops 1 3 rfl rfl (by simp only; omega) (by simp only; omega) ?_ ?_ ?_) | (refine Weak.drops 0 3 rfl rfl (by simp only; omega) (by simp only; omega) ?_ ?_ ?_)
   · simp only [go_sem, Le.refl, Le.any, Int.natCast_add, Int.cast_ofNat_Int, Int.natCast_one]
   · simp only [UndL, UndOs, Ob.Und, and_true, true_and, and_self, Und.v, Und.any, Und.ptr, Und.map, Nat.reduceLT, Nat.zero_lt_succ, Und.tys, Und.tyAgg, Und.oslTys, Und.oslTys1, Und.clo0, Und.ty, Und.data (n := 3) (Data.clo (f := g) hd)]
   · simp only [UndL, UndOs, Ob.Und, and_true, true_and, and_self, Und.v, Und.any, Und.ptr, Und.map, Nat.reduceLT, Nat.zero_lt_succ, Und.tys, Und.tyAgg, Und.oslTys, Und.oslTys1, Und.clo0, Und.ty, Und.data (n := 3) (Data.clo (f := g) hd)]
  ·
   have hk : s = T.ps.length := by simp at hb20; omega
   refine AWp_exit ?_
   simp only [thenQ, blockQ, noGotoQ, bA, Nat.reduceEqDiff, ↓reduceIte]
   iterate 2 (refine y0 _ ?_; (try clear y0 Y0); refine AWp_seqK fun Y0 y0 => ?_; refine AWp_region ?_; simp only [↓bO, go_sem, seval])
   refine y0 _ ?_
   try clear y0 Y0
   refine AWp_ret ?_
   try simp only [thenQ, blockQ, noGotoQ, retQ, aRes, tupOf, bS, bA, aLoad, getO, pack, bL, Nat.reduceAdd, Nat.reduceLeDiff, Nat.reduceEqDiff, ↓reduceIte, ti30, tyX]
   refine Le.agg ?_
   rw [Ty.mapV_eq, Ty.cells_eq, hk, List.take_length]
   exact ⟨.refl _, .refl _, Le.oslL, trivial⟩
theorem Copy1_pure (n : Int) : APure Try.prog 92 [.v (.int .i64 n)] (.v (.int .i64 n)) := by
  refine APure.mkL (.cons (.v _) .nil) (.v _) ?_
  refine ACalls_intro Try.func92 (by kernel_rfl) rfl (by rw [Try.ntmps92]; simp) (fun hm => ?_)
  simp only [Try.ntmps92, Try.results92, List.length_cons, List.length_nil, Nat.reduceAdd, Nat.reduceSub, List.replicate_succ, List.replicate_zero, List.cons_append, List.nil_append]
  iterate 2 (refine AWp_seqK fun Y0 y0 => ?_; refine AWp_region ?_; simp only [↓bO, go_sem, seval]; refine y0 _ ?_; (try clear y0 Y0))
  refine AWp_ret ?_
  try simp only [thenQ, blockQ, noGotoQ, retQ, aRes, tupOf, bS, bA]
  exact Le.refl _
theorem Copy_pure (T : Ty) (hT : T.cnt ≤ 1099511627776) : APure Try.prog 69 [.agg T.cells] (.agg T.cells) := by
  refine APure.mkL (.cons T.dataAgg .nil) (T.dataAgg) ?_
  refine ACalls_intro Try.func69 (by kernel_rfl) rfl (by rw [Try.ntmps69]; simp) (fun hm => ?_)
  simp only [Try.ntmps69, Try.results69, List.length_cons, List.length_nil, Nat.reduceAdd, Nat.reduceSub, List.replicate_succ, List.replicate_zero, List.cons_append, List.nil_append]
  simp only [Ty.cells_eq T, List.cons_append, List.nil_append]
  refine AWp_seqK fun Y0 y0 => ?_
  refine AWp_region ?_
  simp only [↓bO, go_sem, seval]
  refine y0 _ ?_
  try clear y0 Y0
  refine AWp_seqK fun Y0 y0 => ?_
  refine AWp_region ?_
  refine aops_chunk 1 fun Q0 q0 => ?_
  simp only [↓bO, go_sem, seval]
  refine q0 _ ?_
  clear q0 Q0
  simp only [go_sem]
  refine aops_chunk 1 fun Q0 q0 => ?_
  simp only [↓bO, go_sem, seval]
  refine APure.call (by have h9 := change_pure T 92 [] (fun n => n) (fun _ h => by cases h) (fun n => Copy1_pure n) hT; rw [Ty.mapV_id, Ty.cells_eq T] at h9; exact h9) ?_
  try simp only [bS, bA, thenQ, blockQ, noGotoQ]
  refine q0 _ ?_
  clear q0 Q0
  simp only [go_sem]
  simp only [↓bO, go_sem, seval]
  refine y0 _ ?_
  try clear y0 Y0
  refine AWp_ret ?_
  try simp only [thenQ, blockQ, noGotoQ, retQ, aRes, tupOf, bS, bA, aLoad, getO, pack, bL, Nat.reduceAdd, Nat.reduceLeDiff, Nat.reduceEqDiff, ↓reduceIte, ti30]
  exact Le.refl _
def arrowL : List Ty → Ty
  | [] => .mk 0 0 []
  | [t] => t
  | t :: ts => .mk 4 0 [t, arrowL ts]
theorem arrowL_nil {ps : List Ty} (h : ps.length = 0) : arrowL ps = .mk 0 0 [] := by rw [List.length_eq_zero_iff.1 h]; rfl
theorem arrowL_one {ps : List Ty} {p : Ty} (h : ps.length = 1) (hp : ps[0]? = some p) : arrowL ps = p := by
  match ps, h, hp with
  | [t], _, hp => simp at hp; rw [← hp]; rfl
theorem arrowL_more {ps : List Ty} {p : Ty} (h : 2 ≤ ps.length) (hp : ps[0]? = some p) : arrowL ps = .mk 4 0 [p, arrowL (ps.drop 1)] := by
  match ps, h, hp with
  | t :: u :: ts, _, hp => simp at hp; rw [← hp]; rfl
theorem Arrow_pure : ∀ (n : Nat) (ps : List Ty), ps.length = n → Ty.cntL ps ≤ 1099511627776 → APure Try.prog 44 [.sl 3 (ps.map Ty.cells)] (.agg (arrowL ps).cells) := by
  intro n
  induction n with
  | zero =>
    intro ps hn hc
    refine APure.mkL (.cons (Ty.dataSl ps) .nil) (Ty.dataAgg _) ?_
    have h0 : ((ps.length : Int) == 0) = true := by simp; exact List.length_eq_zero_iff.1 hn
    refine ACalls_intro Try.func44 (by kernel_rfl) rfl (by rw [Try.ntmps44]; simp) (fun hm => ?_)
    simp only [Try.ntmps44, Try.results44, List.length_cons, List.length_nil, Nat.reduceAdd, Nat.reduceSub, List.replicate_succ, List.replicate_zero, List.cons_append, List.nil_append]
    refine AWp_seqK fun Y0 y0 => ?_
    refine AWp_region ?_
    simp only [↓bO, go_sem, seval, h0]
    refine y0 _ ?_
    try clear y0 Y0
    refine AWp_seqK fun Y0 y0 => ?_
    refine AWp_seqK fun Y1 y1 => ?_
    refine AWp_region ?_
    simp only [↓bO, go_sem, seval, h0]
    refine y1 _ ?_
    try clear y1 Y1
    refine AWp_block ?_
    refine AWp_seqK fun Y1 y1 => ?_
    refine AWp_region ?_
    simp only [↓bO, go_sem, seval, h0]
    refine y1 _ ?_
    try clear y1 Y1
    refine AWp_cond rfl (fun hb5 => ?_) (fun hb5 => ?_)
    ·
     refine AWp_seqK fun Y1 y1 => ?_
     refine AWp_region ?_
     simp only [↓bO, go_sem, seval, h0]
     refine y1 _ ?_
     try clear y1 Y1
     refine AWp_ret ?_
     try simp only [thenQ, blockQ, noGotoQ, retQ, aRes, tupOf, bS, bA, aLoad, getO, pack, bL, Nat.reduceAdd, Nat.reduceLeDiff, Nat.reduceEqDiff, ↓reduceIte, ti30, h0]
     refine Le.agg ?_
     rw [arrowL_nil hn, Ty.cells_eq]
     exact ⟨.refl _, .refl _, Le.slNil 3, trivial⟩
    ·
     cases hb5
  | succ n ih =>
    intro ps hn hc
    refine APure.mkL (.cons (Ty.dataSl ps) .nil) (Ty.dataAgg _) ?_
    obtain ⟨p, hp⟩ : ∃ p, ps[0]? = some p := ⟨_, List.getElem?_eq_getElem (by omega)⟩
    have hpc := Ty.cnt_mem (List.mem_of_getElem? hp)
    have hlt : (0 : Int) < (ps.length : Int) := by omega
    have hle : (1 : Int) ≤ (ps.length : Int) := by omega
    have hdr : (ps.map Ty.cells).drop 1 = (ps.drop 1).map Ty.cells := by rw [List.map_drop]
    have hdc : Ty.cntL (ps.drop 1) ≤ Ty.cntL ps := by have h9 := Ty.cntL_append (ps.take 1) (ps.drop 1); rw [List.take_append_drop] at h9; omega
    refine ACalls_intro Try.func44 (by kernel_rfl) rfl (by rw [Try.ntmps44]; simp) (fun hm => ?_)
    simp only [Try.ntmps44, Try.results44, List.length_cons, List.length_nil, Nat.reduceAdd, Nat.reduceSub, List.replicate_succ, List.replicate_zero, List.cons_append, List.nil_append]
    refine AWp_seqK fun Y0 y0 => ?_
    refine AWp_region ?_
    simp only [↓bO, go_sem, seval, hlt, hle, hdr, gM hp]
    refine y0 _ ?_
    try clear y0 Y0
    refine AWp_seqK fun Y0 y0 => ?_
    refine AWp_seqK fun Y1 y1 => ?_
    refine AWp_region ?_
    simp only [↓bO, go_sem, seval, hlt, hle, hdr, gM hp]
    refine y1 _ ?_
    try clear y1 Y1
    refine AWp_block ?_
    refine AWp_seqK fun Y1 y1 => ?_
    refine AWp_region ?_
    simp only [↓bO, go_sem, seval, hlt, hle, hdr, gM hp]
    refine y1 _ ?_
    try clear y1 Y1
    refine AWp_cond rfl (fun hb5 => ?_) (fun hb5 => ?_)
    ·
     exact absurd hb5 (by simp only [AV.v.injEq, Value.bool.injEq, beq_iff_eq]; omega)
    ·
     refine AWp_seqK fun Y1 y1 => ?_
     refine AWp_region ?_
     simp only [↓bO, go_sem, seval, hlt, hle, hdr, gM hp]
     refine y1 _ ?_
     try clear y1 Y1
     refine AWp_cond rfl (fun hb8 => ?_) (fun hb8 => ?_)
     ·
      have h1 : ps.length = 1 := by simp at hb8; omega
      refine AWp_seqK fun Y1 y1 => ?_
      refine AWp_region ?_
      refine aops_chunk 3 fun Q0 q0 => ?_
      simp only [↓bO, go_sem, seval, hlt, hle, hdr, gM hp]
      refine q0 _ ?_
      clear q0 Q0
      simp only [go_sem]
      refine aops_chunk 1 fun Q0 q0 => ?_
      simp only [↓bO, go_sem, seval, hlt, hle, hdr, gM hp]
      refine APure.call (Copy_pure p (by omega)) ?_
      try simp only [bS, bA, thenQ, blockQ, noGotoQ]
      refine q0 _ ?_
      clear q0 Q0
      simp only [go_sem]
      simp only [↓bO, go_sem, seval, hlt, hle, hdr, gM hp]
      refine y1 _ ?_
      try clear y1 Y1
      refine AWp_ret ?_
      try simp only [thenQ, blockQ, noGotoQ, retQ, aRes, tupOf, bS, bA, aLoad, getO, pack, bL, Nat.reduceAdd, Nat.reduceLeDiff, Nat.reduceEqDiff, ↓reduceIte, ti30, tyX, hlt, hle, hdr, gM hp]
      refine Le.agg ?_
      first | (rw [arrowL_one h1 hp]; exact LeL.refl _) | (rw [arrowL_more h1 hp, Ty.cells]; exact ⟨.refl _, .refl _, Le.of_eq (by simp [Ty.cellsL]), trivial⟩)
     ·
      have h1 : 2 ≤ ps.length := by simp at hb8; omega
      refine AWp_skip ?_
      try simp only [thenQ, blockQ, noGotoQ]
      refine y0 _ ?_
      try clear y0 Y0
      refine AWp_seqK fun Y0 y0 => ?_
      refine AWp_drawK 9 mixed (by kernel_rfl) fun J0 j0 => ?_
      simp only [go_sem]
      refine dRun_chunk 3 fun Q0 q0 => ?_
      simp only [↓dRun, ↓dOp, ↓bO, go_sem, seval, hlt, hle, hdr, gM hp]
      refine q0 _ ?_
      clear q0 Q0
      simp only [go_sem]
      refine dRun_chunk 1 fun Q0 q0 => ?_
      simp only [↓dRun, ↓dOp, ↓bO, go_sem, seval, hlt, hle, hdr, gM hp]
      refine ⟨_, Copy_pure p (by omega), ?_⟩
      try simp only [bS, bA, thenQ, blockQ, noGotoQ]
      refine q0 _ ?_
      clear q0 Q0
      simp only [go_sem]
      refine dRun_chunk 2 fun Q0 q0 => ?_
      simp only [↓dRun, ↓dOp, ↓bO, go_sem, seval, hlt, hle, hdr, gM hp]
      refine q0 _ ?_
      clear q0 Q0
      simp only [go_sem]
      refine dRun_chunk 1 fun Q0 q0 => ?_
      simp only [↓dRun, ↓dOp, ↓bO, go_sem, seval, hlt, hle, hdr, gM hp]
      refine ⟨_, ih (ps.drop 1) (by simp; omega) (by omega), ?_⟩
      try simp only [bS, bA, thenQ, blockQ, noGotoQ]
      refine q0 _ ?_
      clear q0 Q0
      simp only [go_sem]
      simp only [↓dRun, ↓dOp, ↓bO, go_sem, seval, ↓bs2_1, ↓bs2_2, ↓bs2_3, ↓bs2_4, ↓bs2_5, ↓bs2_6, ↓bs2_7, ↓bs2_8, ↓bs2_9, ↓bs2_10, ↓bs2_11, ↓bs2_12, hlt, hle, hdr, gM hp]
      refine j0 _ ?_
      clear j0 J0
      simp only [go_sem]
      simp only [↓bO, go_sem, seval, hlt, hle, hdr, gM hp]
      refine y0 _ ?_
      try clear y0 Y0
      refine AWp_ret ?_
      try simp only [thenQ, blockQ, noGotoQ, retQ, aRes, tupOf, bS, bA, aLoad, getO, pack, bL, Nat.reduceAdd, Nat.reduceLeDiff, Nat.reduceEqDiff, ↓reduceIte, ti30, tyX, hlt, hle, hdr, gM hp]
      refine Le.agg ?_
      first | (rw [arrowL_one h1 hp]; exact LeL.refl _) | (rw [arrowL_more h1 hp, Ty.cells]; exact ⟨.refl _, .refl _, Le.of_eq (by simp [Ty.cellsL]), trivial⟩)
end Go.Proofs.Ytjjjckjebkmnjaa
namespace Go.Proofs.Ytjjjckjebkmnjaa
open Go Go.RowKit
set_option maxRecDepth 100000
set_option maxHeartbeats 4000000
set_option linter.unusedSimpArgs false
set_option linter.unusedVariables false
attribute [local irreducible] aops dRun
abbrev intC (x : Int) : List AV := [.v (.int .i64 x)]
theorem dataInts (l : List Int) : Data (.sl 1 (l.map intC)) := .sl fun x hx => by
  obtain ⟨y, _, rfl⟩ := List.mem_map.1 hx
  exact .cons (.v _) .nil
theorem ints_one (l : List Int) : ((l.map intC).all fun y => y.all AV.one) = true := by
  rw [List.all_eq_true]
  intro y hy
  obtain ⟨r, _, rfl⟩ := List.mem_map.1 hy
  rfl
structure RNode where
  t : Ty
  parts : List Int
def RNode.cells (r : RNode) : List AV := [.v (.int .i64 r.t.k), .v (.int .i64 r.t.n), .sl 3 (r.t.ps.map Ty.cells), .sl 1 (r.parts.map intC)]
theorem Ty.refold (t : Ty) : AV.agg [.v (.int .i64 t.k), .v (.int .i64 t.n), .sl 3 (t.ps.map Ty.cells)] = .agg t.cells := by rw [t.cells_eq]
theorem RNode.data (r : RNode) : DataL r.cells := .cons (.v _) (.cons (.v _) (.cons (Ty.dataSl _) (.cons (dataInts _) .nil)))
theorem RNode.dataSl (g : List RNode) : Data (.sl 4 (g.map RNode.cells)) := .sl fun x hx => by
  obtain ⟨y, _, rfl⟩ := List.mem_map.1 hx
  exact y.data
def RNode.isVar (n : Int) (r : RNode) : Bool := r.t.k == 1 && r.t.n == n
mutual
def Ty.radd : Ty → List RNode → List RNode × Int
  | .mk k n ps, g =>
    if k = 1 ∧ 0 ≤ idxI (RNode.isVar n) g then (g, idxI (RNode.isVar n) g)
    else
      let r := Ty.raddL ps g []
      (r.1 ++ [⟨.mk k n ps, r.2⟩], (r.1.length : Int))
def Ty.raddL : List Ty → List RNode → List Int → List RNode × List Int
  | [], g, l => (g, l)
  | p :: ps, g, l =>
    let r := Ty.radd p g
    Ty.raddL ps r.1 (l ++ [r.2])
end
theorem Ints_pure (A B : List Int) : APure Try.prog 27 [.sl 1 (A.map intC), .sl 1 (B.map intC)] (.v (.bool (decide (A = B)))) := by
  refine APure.mkL (.cons (dataInts A) (.cons (dataInts B) .nil)) (.v _) ?_
  refine ACalls_intro Try.func27 (by kernel_rfl) rfl (by rw [Try.ntmps27]; simp) (fun hm => ?_)
  simp only [Try.ntmps27, Try.results27, List.length_cons, List.length_nil, Nat.reduceAdd, Nat.reduceSub, List.replicate_succ, List.replicate_zero, List.cons_append, List.nil_append]
  have hm1 := hm.len (sz := 1) (xs := A.map intC) (by simp)
  rw [List.length_map] at hm1
  refine AWp_seqK fun Y0 y0 => ?_
  refine AWp_region ?_
  simp only [↓bO, go_sem, seval]
  refine y0 _ ?_
  try clear y0 Y0
  refine AWp_seqK fun Y0 y0 => ?_
  refine AWp_seqK fun Y1 y1 => ?_
  refine AWp_region ?_
  refine aops_chunk 4 fun Q0 q0 => ?_
  simp only [↓bO, go_sem, seval]
  refine q0 _ ?_
  clear q0 Q0
  simp only [go_sem]
  simp only [↓bO, go_sem, seval]
  refine y1 _ ?_
  try clear y1 Y1
  refine AWp_cond rfl (fun hb10 => ?_) (fun hb10 => ?_)
  ·
   refine AWp_seqK fun Y1 y1 => ?_
   refine AWp_region ?_
   simp only [↓bO, go_sem, seval]
   refine y1 _ ?_
   try clear y1 Y1
   refine AWp_ret ?_
   try simp only [thenQ, blockQ, noGotoQ, retQ, aRes, tupOf, bS, bA]
   refine Le.of_eq (congrArg (fun b => AV.v (.bool b)) ?_)
   symm
   first | (rw [decide_eq_false_iff_not]; intro e; subst e; simp at hb10; done) | (rw [decide_eq_false_iff_not]; intro e; subst e; rw [hp] at hq; cases hq; simp at hb25; done) | (rw [decide_eq_true_eq]; apply List.ext_getElem hAB; intro i h1 h2; exact hs.2 i _ _ (by omega) (List.getElem?_eq_getElem h1) (List.getElem?_eq_getElem h2))
  ·
   have hAB : A.length = B.length := by simp at hb10; omega
   refine AWp_skip ?_
   try simp only [thenQ, blockQ, noGotoQ]
   refine y0 _ ?_
   try clear y0 Y0
   refine AWp_seqK fun Y0 y0 => ?_
   refine AWp_seqK fun Y1 y1 => ?_
   refine AWp_region ?_
   simp only [↓bO, go_sem, seval]
   refine y1 _ ?_
   try clear y1 Y1
   refine AWp_block ?_
   refine AWp_loopM (σ := Nat) (mB 26 35) (fun s => s ≤ A.length ∧ ∀ (i : Nat) (p q : Int), i < s → A[i]? = some p → B[i]? = some q → p = q) (fun s => [(5, .v (.int .i64 (s : Int)))]) (fun s => []) (fun s => A.length - s) 0 (⟨by omega, fun i p q hi => by omega⟩) ?_ (fun s hs => ?_)
   ·
    simp only [maskL, setsL, putsO, putO, mB, List.set_cons_zero, List.set_cons_succ, seval]
    exact Weak.mk (by simp only [go_sem, Le.refl, Le.any, Le.slNil, Int.natCast_add, Int.cast_ofNat_Int, Int.natCast_one]) (fun _ _ h => h) rfl rfl
   simp only [maskL, setsL, putsO, putO, mB, List.set_cons_zero, List.set_cons_succ, seval]
   refine AWp_seqK fun Y1 y1 => ?_
   refine AWp_seqK fun Y2 y2 => ?_
   refine AWp_region ?_
   simp only [↓bO, go_sem, seval]
   refine y2 _ ?_
   try clear y2 Y2
   refine AWp_cond rfl (fun hb14 => ?_) (fun hb14 => ?_)
   ·
    have hk : s < A.length := by simpa using hb14
    obtain ⟨p, hp⟩ : ∃ p, A[s]? = some p := ⟨_, List.getElem?_eq_getElem hk⟩
    have hw : IntKind.i64.wrap ((s : Int) + 1) = (s : Int) + 1 := wrap_in (by omega) (by simp only [maxLen] at hm1; omega)
    have hk2 : s < B.length := by omega
    obtain ⟨q, hq⟩ : ∃ q, B[s]? = some q := ⟨_, List.getElem?_eq_getElem hk2⟩
    refine AWp_skip ?_
    try simp only [thenQ, blockQ, noGotoQ]
    refine y1 _ ?_
    try clear y1 Y1
    refine AWp_seqK fun Y1 y1 => ?_
    refine AWp_block ?_
    refine AWp_seqK fun Y2 y2 => ?_
    refine AWp_drawK 9 mixed (by kernel_rfl) fun J0 j0 => ?_
    iterate 2 (simp only [go_sem]; refine dRun_chunk 4 fun Q0 q0 => ?_; simp only [↓dRun, ↓dOp, ↓bO, go_sem, seval, hk, gM hp, Int.natCast_add, hw, hk2, gM hq, intC]; refine q0 _ ?_; clear q0 Q0)
    simp only [go_sem]
    simp only [↓dRun, ↓dOp, ↓bO, go_sem, seval, hk, gM hp, Int.natCast_add, hw, hk2, gM hq, intC]
    refine j0 _ ?_
    clear j0 J0
    simp only [bL, aops, thenQ, blockQ, noGotoQ]
    refine y2 _ ?_
    try clear y2 Y2
    refine AWp_cond rfl (fun hb25 => ?_) (fun hb25 => ?_)
    ·
     refine AWp_seqK fun Y2 y2 => ?_
     refine AWp_region ?_
     simp only [↓bO, go_sem, seval, hk, gM hp, Int.natCast_add, hw, hk2, gM hq, intC]
     refine y2 _ ?_
     try clear y2 Y2
     refine AWp_ret ?_
     try simp only [thenQ, blockQ, noGotoQ, retQ, aRes, tupOf, bS, bA]
     refine Le.of_eq (congrArg (fun b => AV.v (.bool b)) ?_)
     symm
     first | (rw [decide_eq_false_iff_not]; intro e; subst e; simp at hb10; done) | (rw [decide_eq_false_iff_not]; intro e; subst e; rw [hp] at hq; cases hq; simp at hb25; done) | (rw [decide_eq_true_eq]; apply List.ext_getElem hAB; intro i h1 h2; exact hs.2 i _ _ (by omega) (List.getElem?_eq_getElem h1) (List.getElem?_eq_getElem h2))
    ·
     refine AWp_skip ?_
     try simp only [thenQ, blockQ, noGotoQ]
     refine y1 _ ?_
     try clear y1 Y1
     refine AWp_region ?_
     simp only [↓bO, go_sem, seval, hk, gM hp, Int.natCast_add, hw, hk2, gM hq, intC]
     refine ⟨(s + 1), ⟨by omega, fun i p' q' hi h1 h2 => (by rcases Nat.lt_or_ge i s with h3 | h3 <;> first | exact hs.2 i p' q' h3 h1 h2 | (obtain rfl : i = s := (by omega); rw [hp] at h1; rw [hq] at h2; cases h1; cases h2; simpa using hb25))⟩, by omega, ?_⟩
     simp only [maskL, setsL, putsO, putO, mB, List.set_cons_zero, List.set_cons_succ, seval, hk, gM hp, Int.natCast_add, Int.natCast_one, hw, hk2, gM hq, intC]
     exact Weak.mk (by simp only [go_sem, Le.refl, Le.any, Le.slNil, Int.natCast_add, Int.cast_ofNat_Int, Int.natCast_one]) (fun _ _ h => h) rfl rfl
   ·
    have hk : s = A.length := by have := hs.1; simp at hb14; omega
    refine AWp_exit ?_
    simp only [thenQ, blockQ, noGotoQ, bA, Nat.reduceEqDiff, ↓reduceIte]
    refine y0 _ ?_
    try clear y0 Y0
    refine AWp_seqK fun Y0 y0 => ?_
    refine AWp_region ?_
    simp only [↓bO, go_sem, seval]
    refine y0 _ ?_
    try clear y0 Y0
    refine AWp_ret ?_
    try simp only [thenQ, blockQ, noGotoQ, retQ, aRes, tupOf, bS, bA]
    refine Le.of_eq (congrArg (fun b => AV.v (.bool b)) ?_)
    symm
    first | (rw [decide_eq_false_iff_not]; intro e; subst e; simp at hb10; done) | (rw [decide_eq_false_iff_not]; intro e; subst e; rw [hp] at hq; cases hq; simp at hb25; done) | (rw [decide_eq_true_eq]; apply List.ext_getElem hAB; intro i h1 h2; exact hs.2 i _ _ (by omega) (List.getElem?_eq_getElem h1) (List.getElem?_eq_getElem h2))
theorem Ty.radd_eq (t : Ty) (g : List RNode) : t.radd g = if t.k = 1 ∧ 0 ≤ idxI (RNode.isVar t.n) g then (g, idxI (RNode.isVar t.n) g) else ((Ty.raddL t.ps g []).1 ++ [⟨t, (Ty.raddL t.ps g []).2⟩], ((Ty.raddL t.ps g []).1.length : Int)) := by
  cases t; rw [Ty.radd]; rfl
end Go.Proofs.Ytjjjckjebkmnjaa
