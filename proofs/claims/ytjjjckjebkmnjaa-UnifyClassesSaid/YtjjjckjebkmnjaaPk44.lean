/- Texts of the abstract walk, of the contracts and of the plain laws, packed (part 44 of 45): Ga1 Lay Sk Ga2 GaL UmL Um1 Ur1 Ur2 Ur3 UmK UoL UoL2 UcL Ur5 UcS Uo1. Conditions: none. -/
import Derived.Test.YtjjjckjebkmnjaaPk43
import Derived.Shelf.SlIterI.Nil
import Derived.Shelf.SortM.Plain
import Derived.Shelf.SortM.SortNone
import Derived.Ground.GgzProg
import Derived.Ground.SlgmProg
import Derived.Test.YtjjjckjebkmnjaaProg
namespace Go.Proofs.Ytjjjckjebkmnjaa
open Go Go.RowKit
set_option maxRecDepth 100000
set_option maxHeartbeats 4000000
set_option linter.unusedSimpArgs false
set_option linter.unusedVariables false
attribute [local irreducible] aops dRun
def insI (n : Int) (l : List Int) : List Int := l.takeWhile (fun x => decide (x < n)) ++ n :: l.dropWhile (fun x => decide (x < n))
theorem insI_len (n : Int) (l : List Int) : (insI n l).length = l.length + 1 := by
  have h := congrArg List.length (List.takeWhile_append_dropWhile (p := fun x => decide (x < n)) (l := l))
  simp only [List.length_append] at h
  simp only [insI, List.length_append, List.length_cons]; omega
theorem while_at {p : Int → Bool} : ∀ {l : List Int} {v : Nat}, v ≤ l.length → (∀ (j : Nat) (x : Int), j < v → l[j]? = some x → p x = true) → (∀ x, l[v]? = some x → p x = false) → l.takeWhile p = l.take v ∧ l.dropWhile p = l.drop v
  | [], v, hv, _, _ => by simp
  | a :: l, 0, _, _, h => by
    have := h a rfl
    simp [List.takeWhile_cons, List.dropWhile_cons, this]
  | a :: l, v + 1, hv, h1, h2 => by
    have ha := h1 0 a (by omega) rfl
    have ih := while_at (l := l) (v := v) (by simpa using hv) (fun j x hj hx => h1 (j + 1) x (by omega) (by simpa using hx)) (fun x hx => h2 x (by simpa using hx))
    simp [List.takeWhile_cons, List.dropWhile_cons, ha, ih.1, ih.2]
theorem intC_all (l : List Int) : ((l.map intC).all fun y => y.all AV.one) = true := by
  induction l with
  | nil => rfl
  | cons x l ih => rw [List.map_cons, List.all_cons, ih]; rfl
def varsS (l : List Int) (r : RNode) : List Int := if r.t.k = 1 then insI r.t.n l else l
def varsI (g : List RNode) : List Int := g.foldl varsS []
theorem varsI_take {g : List RNode} {s : Nat} {r : RNode} (h : g[s]? = some r) : varsI (g.take (s + 1)) = varsS (varsI (g.take s)) r := by
  rw [List.take_add_one, h, varsI, List.foldl_append]; rfl
theorem varsS_len (l : List Int) (r : RNode) : (varsS l r).length ≤ l.length + 1 := by
  unfold varsS; split
  · rw [insI_len]; omega
  · omega
theorem varsI_len : ∀ (g : List RNode) (l : List Int), (g.foldl varsS l).length ≤ l.length + g.length
  | [], l => by simp
  | r :: g, l => by
    have h1 := varsI_len g (varsS l r)
    have h2 := varsS_len l r
    simp only [List.foldl_cons, List.length_cons]; omega
theorem RGVars_pure (g : List RNode) (hg : g.length ≤ 1048576) : APure Try.prog 26 [.sl 4 (g.map RNode.cells)] (.sl 1 ((varsI g).map intC)) := by
  refine APure.mkL (.cons (RNode.dataSl g) .nil) (dataInts _) ?_
  refine ACalls_intro Try.func26 (by kernel_rfl) rfl (by rw [Try.ntmps26]; simp) (fun hm => ?_)
  simp only [Try.ntmps26, Try.results26, List.length_cons, List.length_nil, Nat.reduceAdd, Nat.reduceSub, List.replicate_succ, List.replicate_zero, List.cons_append, List.nil_append]
  iterate 2 (refine AWp_seqK fun Y0 y0 => ?_; refine AWp_region ?_; simp only [↓aops, ↓aop, ↓aWant, ↓aVal, go_sem, seval]; refine y0 _ ?_; (try clear y0 Y0))
  refine AWp_seqK fun Y0 y0 => ?_
  refine AWp_seqK fun Y1 y1 => ?_
  refine AWp_region ?_
  simp only [↓aops, ↓aop, ↓aWant, ↓aVal, go_sem, seval]
  refine y1 _ ?_
  try clear y1 Y1
  refine AWp_block ?_
  refine AWp_loopM (σ := Nat) (mB 56 25) (fun s => s ≤ g.length) (fun s => [(3, .sl 1 ((varsI (g.take s)).map intC)), (4, .v (.int .i64 (s : Int)))]) (fun s => []) (fun s => g.length - s) 0 (by omega) ?_ (fun s hs => ?_)
  ·
   simp only [maskL, setsL, putsO, putO, mB, List.set_cons_zero, List.set_cons_succ, seval, bL, varsI, List.foldl_nil]
   exact Weak.mk (by simp only [go_sem, Le.refl, Le.any, Le.slNil, Int.natCast_add, Int.cast_ofNat_Int, Int.natCast_one]) (fun _ _ h => h) rfl rfl
  simp only [maskL, setsL, putsO, putO, mB, List.set_cons_zero, List.set_cons_succ, seval]
  refine AWp_seqK fun Y1 y1 => ?_
  refine AWp_seqK fun Y2 y2 => ?_
  refine AWp_region ?_
  iterate 3 (refine aops_chunk 1 fun Q0 q0 => ?_; simp only [↓aops, ↓aop, ↓aWant, ↓aVal, go_sem, seval]; refine q0 _ ?_; clear q0 Q0; simp only [go_sem])
  simp only [↓aops, ↓aop, ↓aWant, ↓aVal, go_sem, seval]
  refine y2 _ ?_
  try clear y2 Y2
  refine AWp_cond rfl (fun hb9 => ?_) (fun hb9 => ?_)
  ·
   have hk : s < g.length := by simpa using hb9
   obtain ⟨r, hr⟩ : ∃ r, g[s]? = some r := ⟨_, List.getElem?_eq_getElem hk⟩
   have hw : IntKind.i64.wrap ((s : Int) + 1) = (s : Int) + 1 := wrap_in (by omega) (by omega)
   have hvt := varsI_take hr
   have hvl := varsI_len (g.take s) []
   have hvl2 : (varsI (g.take s)).length ≤ 1048576 := by (unfold varsI; simp at hvl ⊢; omega)
   refine AWp_skip ?_
   try simp only [thenQ, blockQ, noGotoQ]
   refine y1 _ ?_
   try clear y1 Y1
   refine AWp_seqK fun Y1 y1 => ?_
   refine AWp_block ?_
   refine AWp_seqK fun Y2 y2 => ?_
   refine AWp_seqK fun Y3 y3 => ?_
   refine AWp_region ?_
   iterate 6 (refine aops_chunk 1 fun Q0 q0 => ?_; simp only [↓aops, ↓aop, ↓aWant, ↓aVal, go_sem, seval, hk, gM hr, RNode.cells, Int.natCast_add, hw]; refine q0 _ ?_; clear q0 Q0; simp only [go_sem])
   simp only [↓aops, ↓aop, ↓aWant, ↓aVal, go_sem, seval, hk, gM hr, RNode.cells, Int.natCast_add, hw]
   refine y3 _ ?_
   try clear y3 Y3
   refine AWp_cond rfl (fun hb18 => ?_) (fun hb18 => ?_)
   ·
    have hk1 : r.t.k ≠ 1 := by simpa using hb18
    have hst : varsI (g.take (s + 1)) = (varsI (g.take s)) := by rw [hvt, varsS, if_neg hk1]
    refine AWp_exit ?_
    simp only [thenQ, blockQ, noGotoQ, bA, Nat.reduceEqDiff, ↓reduceIte]
    refine y1 _ ?_
    try clear y1 Y1
    refine AWp_region ?_
    iterate 2 (refine aops_chunk 1 fun Q0 q0 => ?_; simp only [↓aops, ↓aop, ↓aWant, ↓aVal, go_sem, seval, hk, gM hr, RNode.cells, Int.natCast_add, hw]; refine q0 _ ?_; clear q0 Q0; simp only [go_sem])
    simp only [↓aops, ↓aop, ↓aWant, ↓aVal, go_sem, seval, hk, gM hr, RNode.cells, Int.natCast_add, hw]
    refine ⟨(s + 1), (by omega), by omega, ?_⟩
    simp only [maskL, setsL, putsO, putO, mB, List.set_cons_zero, List.set_cons_succ, seval, Int.natCast_add, Int.natCast_one]
    refine Weak.bare ?_ rfl ?_
    ·
     simp only [go_sem, Le.refl, Le.any]
     first | (rw [hst2]; exact Le.oslL) | (rw [hst]; exact Le.refl _)
    · repeat' first | exact trivial | exact .any _ | exact .v _ _ | exact Und.data (RNode.dataSl _) | exact Und.data (dataInts _) | (refine ⟨?_, ?_⟩)
   ·
    have hk1 : r.t.k = 1 := by simpa using hb18
    refine AWp_skip ?_
    try simp only [thenQ, blockQ, noGotoQ]
    refine y2 _ ?_
    try clear y2 Y2
    refine AWp_seqK fun Y2 y2 => ?_
    refine AWp_region ?_
    simp only [↓aops, ↓aop, ↓aWant, ↓aVal, go_sem, seval, hk, gM hr, RNode.cells, Int.natCast_add, hw]
    refine y2 _ ?_
    try clear y2 Y2
    refine AWp_seqK fun Y2 y2 => ?_
    refine AWp_block ?_
    refine AWp_loopM (σ := Nat) (mB 56 57) (fun v => v ≤ (varsI (g.take s)).length ∧ ∀ (j : Nat) (x : Int), j < v → (varsI (g.take s))[j]? = some x → x < r.t.n) (fun v => [(5, .v (.int .i64 (v : Int)))]) (fun v => []) (fun v => (varsI (g.take s)).length - v) 0 (⟨Nat.zero_le _, fun j x hj => by omega⟩) ?_ (fun v hv => ?_)
    ·
     simp only [maskL, setsL, putsO, putO, mB, List.set_cons_zero, List.set_cons_succ, seval]
     exact Weak.mk (by simp only [go_sem, Le.refl, Le.any, Le.slNil, Int.natCast_add, Int.cast_ofNat_Int, Int.natCast_one]) (fun _ _ h => h) rfl rfl
    simp only [maskL, setsL, putsO, putO, mB, List.set_cons_zero, List.set_cons_succ, seval]
    refine AWp_seqK fun Y3 y3 => ?_
    refine AWp_joinM (mB 56 34359738425) ([(35, .v (.bool (decide (v < (varsI (g.take s)).length ∧ (varsI (g.take s)).getD v 0 < r.t.n))))]) ([]) ?_ ?_
    ·
     refine AWp_drawK 17 mixed (by kernel_rfl) fun J0 j0 => ?_
     iterate 5 (simp only [go_sem]; refine dRun_chunk 1 fun Q0 q0 => ?_; simp only [↓dRun, ↓dOp, ↓aops, ↓aop, ↓aWant, ↓aVal, go_sem, seval, hk, gM hr, RNode.cells, Int.natCast_add, hw]; refine q0 _ ?_; clear q0 Q0)
     simp only [go_sem]
     refine dRun_case 23 rfl (fun hc23 => ?_) (fun hc23 => ?_)
     ·
      simp only [List.set_cons_zero, List.set_cons_succ]
      have hlv : v < (varsI (g.take s)).length := by simpa using hc23
      obtain ⟨x1, hx1⟩ : ∃ x, (varsI (g.take s))[v]? = some x := ⟨_, List.getElem?_eq_getElem hlv⟩
      iterate 11 (refine dRun_chunk 1 fun Q0 q0 => ?_; simp only [↓dRun, ↓dOp, ↓aops, ↓aop, ↓aWant, ↓aVal, go_sem, seval, hk, gM hr, RNode.cells, Int.natCast_add, hw, gM hx1, hlv, intC]; refine q0 _ ?_; clear q0 Q0; simp only [go_sem])
      simp only [↓dRun, ↓dOp, ↓aops, ↓aop, ↓aWant, ↓aVal, go_sem, seval, hk, gM hr, RNode.cells, Int.natCast_add, hw, gM hx1, hlv, intC]
      refine j0 _ ?_
      clear j0 J0
      simp only [bL, aops, thenQ, blockQ, noGotoQ]
      try simp only [maskL, setsL, putsO, putO, mB, List.set_cons_zero, List.set_cons_succ, seval]
      refine Weak.mk ?_ (fun _ _ h => h) rfl rfl
      simp only [go_sem, Le.refl, Le.any]
      all_goals (refine Le.of_eq (congrArg (fun b => AV.v (.bool b)) ?_); rw [Bool.eq_iff_iff]; simp only [decide_eq_true_eq, Bool.false_eq_true, false_iff, List.getD_eq_getElem?_getD]; first | (rw [hx1]; simp [hlv]; done) | (simp [hlv]; done))
     ·
      simp only [List.set_cons_zero, List.set_cons_succ]
      have hlv : ¬ v < (varsI (g.take s)).length := by simpa using hc23
      iterate 11 (refine dRun_chunk 1 fun Q0 q0 => ?_; simp only [↓dRun, ↓dOp, ↓aops, ↓aop, ↓aWant, ↓aVal, go_sem, seval, hk, gM hr, RNode.cells, Int.natCast_add, hw]; refine q0 _ ?_; clear q0 Q0; simp only [go_sem])
      simp only [↓dRun, ↓dOp, ↓aops, ↓aop, ↓aWant, ↓aVal, go_sem, seval, hk, gM hr, RNode.cells, Int.natCast_add, hw]
      refine j0 _ ?_
      clear j0 J0
      simp only [bL, aops, thenQ, blockQ, noGotoQ]
      try simp only [maskL, setsL, putsO, putO, mB, List.set_cons_zero, List.set_cons_succ, seval]
      refine Weak.mk ?_ (fun _ _ h => h) rfl rfl
      simp only [go_sem, Le.refl, Le.any]
      all_goals (refine Le.of_eq (congrArg (fun b => AV.v (.bool b)) ?_); rw [Bool.eq_iff_iff]; simp only [decide_eq_true_eq, Bool.false_eq_true, false_iff, List.getD_eq_getElem?_getD]; first | (rw [hx1]; simp [hlv]; done) | (simp [hlv]; done))
    simp only [maskL, setsL, putsO, putO, mB, List.set_cons_zero, List.set_cons_succ, seval]
    refine AWp_cond rfl (fun hb35 => ?_) (fun hb35 => ?_)
    ·
     have hk0 : v < (varsI (g.take s)).length ∧ (varsI (g.take s)).getD v 0 < r.t.n := by simpa using hb35
     obtain ⟨x0, hxv⟩ : ∃ x, (varsI (g.take s))[v]? = some x := ⟨_, List.getElem?_eq_getElem hk0.1⟩
     have hlt : x0 < r.t.n := by (have h9 := hk0.2; rw [List.getD_eq_getElem?_getD, hxv] at h9; exact h9)
     have hk1 := hk0.1
     have hw2 : IntKind.i64.wrap ((v : Int) + 1) = (v : Int) + 1 := wrap_in (by omega) (by omega)
     refine AWp_skip ?_
     try simp only [thenQ, blockQ, noGotoQ]
     refine y3 _ ?_
     try clear y3 Y3
     refine AWp_block ?_
     refine AWp_region ?_
     iterate 2 (refine aops_chunk 1 fun Q0 q0 => ?_; simp only [↓aops, ↓aop, ↓aWant, ↓aVal, go_sem, seval, hk, gM hr, RNode.cells, Int.natCast_add, hw, hw2]; refine q0 _ ?_; clear q0 Q0; simp only [go_sem])
     simp only [↓aops, ↓aop, ↓aWant, ↓aVal, go_sem, seval, hk, gM hr, RNode.cells, Int.natCast_add, hw, hw2]
     refine ⟨(v + 1), ⟨by omega, fun j x hj hx => by (rcases Nat.lt_or_ge j v with h9 | h9 <;> first | exact hv.2 j x h9 hx | (obtain rfl : j = v := (by omega); rw [hxv] at hx; cases hx; exact hlt))⟩, by omega, ?_⟩
     simp only [maskL, setsL, putsO, putO, mB, List.set_cons_zero, List.set_cons_succ, seval, hw2, Int.natCast_add, Int.natCast_one, Int.cast_ofNat_Int]
     exact Weak.mk (by simp only [go_sem, Le.refl, Le.any, Le.slNil, Int.natCast_add, Int.cast_ofNat_Int, Int.natCast_one]) (fun _ _ h => h) rfl rfl
    ·
     have hk0 : ¬ (v < (varsI (g.take s)).length ∧ (varsI (g.take s)).getD v 0 < r.t.n) := by simpa using hb35
     have hvv := hv.1
     obtain ⟨htw, hdw⟩ := while_at (p := fun x => decide (x < r.t.n)) hv.1 (fun j x hj hx => by simpa using hv.2 j x hj hx) (fun x hx => by (have h9 := (List.getElem?_eq_some_iff.1 hx).1; rw [List.getD_eq_getElem?_getD, hx] at hk0; simp only [h9, true_and, Option.getD_some] at hk0; simpa using hk0))
     have hst : varsI (g.take (s + 1)) = (varsI (g.take s)).take v ++ r.t.n :: (varsI (g.take s)).drop v := by rw [hvt, varsS, if_pos hk1, insI, htw, hdw]
     have hst2 : (varsI (g.take (s + 1))).map intC = List.take v ((varsI (g.take s)).map intC) ++ [[.v (.int .i64 r.t.n)]] ++ List.drop v ((varsI (g.take s)).map intC) := by rw [hst]; simp [intC]
     have hb0 : (v : Int) ≤ ((varsI (g.take s)).length : Int) := by omega
     have hl1 : ((varsI (g.take s)).take v).length = v := by simp; omega
     have hl2 : ((varsI (g.take s)).drop v).length = (varsI (g.take s)).length - v := by simp
     have hq1 : v * 8 ≤ 140737488355328 := by omega
     have hq2 : v ≤ maxLen := by simp only [maxLen]; omega
     have hq3 : (v + 1) * 8 ≤ 140737488355328 := by omega
     have hq4 : v + 1 ≤ maxLen := by simp only [maxLen]; omega
     have hq5 : (v + 1 + ((varsI (g.take s)).length - v)) * 8 ≤ 140737488355328 := by omega
     have hq6 : v + 1 + ((varsI (g.take s)).length - v) ≤ maxLen := by simp only [maxLen]; omega
     have ha1 : ((List.take v ((varsI (g.take s)).map intC)).all fun y => y.all AV.one) = true := by (rw [← List.map_take]; exact intC_all _)
     have ha2 : ((List.drop v ((varsI (g.take s)).map intC)).all fun y => y.all AV.one) = true := by (rw [← List.map_drop]; exact intC_all _)
     have hl3 : (List.take v ((varsI (g.take s)).map intC)).length = v := by simp; omega
     have hl4 : (List.drop v ((varsI (g.take s)).map intC)).length = (varsI (g.take s)).length - v := by simp
     have hb9 : (0 : Int) ≤ (v : Int) := by omega
     have ht0 : List.take (varsI (g.take s)).length ((varsI (g.take s)).map intC) = (varsI (g.take s)).map intC := List.take_of_length_le (by simp)
     refine AWp_exit ?_
     simp only [thenQ, blockQ, noGotoQ, bA, Nat.reduceEqDiff, ↓reduceIte]
     refine y2 _ ?_
     try clear y2 Y2
     refine RAny_start 18 rfl mixed ?_
     dsimp only
     refine RAny_takeK 1 rfl (by kernel_rfl) (by kernel_rfl) (by kernel_rfl) (fun _ _ h => h) fun Q0 q0 => ?_
     simp only [↓aops, ↓aop, ↓aWant, ↓aVal, go_sem, seval, rHead, isE, isPE, isSE, isSl, hk, gM hr, RNode.cells, Int.natCast_add, hw, ht0, List.length_append, hb0, ha1, ha2, hl3, hl4, hq1, hq2, hq3, hq4, hq5, hq6]
     refine q0 _ ?_
     clear q0 Q0
     refine RAny_takeK 2 rfl (by kernel_rfl) (by kernel_rfl) (by kernel_rfl) (fun _ _ h => h) fun Q0 q0 => ?_
     simp only [↓aops, ↓aop, ↓aWant, ↓aVal, go_sem, seval, rHead, isE, isPE, isSE, isSl, hk, gM hr, RNode.cells, Int.natCast_add, hw, ht0, List.length_append, hb0, ha1, ha2, hl3, hl4, hq1, hq2, hq3, hq4, hq5, hq6]
     refine q0 _ ?_
     clear q0 Q0
     refine RAny_takeK 3 rfl (by kernel_rfl) (by kernel_rfl) (by kernel_rfl) (fun _ _ h => h) fun Q0 q0 => ?_
     simp only [↓aops, ↓aop, ↓aWant, ↓aVal, go_sem, seval, rHead, isE, isPE, isSE, isSl, hk, gM hr, RNode.cells, Int.natCast_add, hw, ht0, List.length_append, hb0, ha1, ha2, hl3, hl4, hq1, hq2, hq3, hq4, hq5, hq6]
     refine q0 _ ?_
     clear q0 Q0
     refine RAny_takeK 5 rfl (by kernel_rfl) (by kernel_rfl) (by kernel_rfl) (fun _ _ h => h) fun Q0 q0 => ?_
     simp only [↓aops, ↓aop, ↓aWant, ↓aVal, go_sem, seval, rHead, isE, isPE, isSE, isSl, hk, gM hr, RNode.cells, Int.natCast_add, hw, ht0, List.length_append, hb0, ha1, ha2, hl3, hl4, hq1, hq2, hq3, hq4, hq5, hq6]
     refine q0 _ ?_
     clear q0 Q0
     refine RAny_takeK 6 rfl (by kernel_rfl) (by kernel_rfl) (by kernel_rfl) (fun _ _ h => h) fun Q0 q0 => ?_
     simp only [↓aops, ↓aop, ↓aWant, ↓aVal, go_sem, seval, rHead, isE, isPE, isSE, isSl, hk, gM hr, RNode.cells, Int.natCast_add, hw, ht0, List.length_append, hb0, ha1, ha2, hl3, hl4, hq1, hq2, hq3, hq4, hq5, hq6]
     refine q0 _ ?_
     clear q0 Q0
     refine RAny_takeK 7 rfl (by kernel_rfl) (by kernel_rfl) (by kernel_rfl) (fun _ _ h => h) fun Q0 q0 => ?_
     simp only [↓aops, ↓aop, ↓aWant, ↓aVal, go_sem, seval, rHead, isE, isPE, isSE, isSl, hk, gM hr, RNode.cells, Int.natCast_add, hw, ht0, List.length_append, hb0, ha1, ha2, hl3, hl4, hq1, hq2, hq3, hq4, hq5, hq6]
     refine q0 _ ?_
     clear q0 Q0
     refine RAny_takeK 8 rfl (by kernel_rfl) (by kernel_rfl) (by kernel_rfl) (fun _ _ h => h) fun Q0 q0 => ?_
     simp only [↓aops, ↓aop, ↓aWant, ↓aVal, go_sem, seval, rHead, isE, isPE, isSE, isSl, hk, gM hr, RNode.cells, Int.natCast_add, hw, ht0, List.length_append, hb0, ha1, ha2, hl3, hl4, hq1, hq2, hq3, hq4, hq5, hq6]
     refine q0 _ ?_
     clear q0 Q0
     refine RAny_takeK 9 rfl (by kernel_rfl) (by kernel_rfl) (by kernel_rfl) (fun _ _ h => h) fun Q0 q0 => ?_
     simp only [↓aops, ↓aop, ↓aWant, ↓aVal, go_sem, seval, rHead, isE, isPE, isSE, isSl, hk, gM hr, RNode.cells, Int.natCast_add, hw, ht0, List.length_append, hb0, ha1, ha2, hl3, hl4, hq1, hq2, hq3, hq4, hq5, hq6]
     refine q0 _ ?_
     clear q0 Q0
     refine RAny_takeK 10 rfl (by kernel_rfl) (by kernel_rfl) (by kernel_rfl) (fun _ _ h => h) fun Q0 q0 => ?_
     simp only [↓aops, ↓aop, ↓aWant, ↓aVal, go_sem, seval, rHead, isE, isPE, isSE, isSl, hk, gM hr, RNode.cells, Int.natCast_add, hw, ht0, List.length_append, hb0, ha1, ha2, hl3, hl4, hq1, hq2, hq3, hq4, hq5, hq6]
     refine q0 _ ?_
     clear q0 Q0
     refine RAny_takeK 13 rfl (by kernel_rfl) (by kernel_rfl) (by kernel_rfl) (fun _ _ h => h) fun Q0 q0 => ?_
     simp only [↓aops, ↓aop, ↓aWant, ↓aVal, go_sem, seval, rHead, isE, isPE, isSE, isSl, hk, gM hr, RNode.cells, Int.natCast_add, hw, ht0, List.length_append, hb0, ha1, ha2, hl3, hl4, hq1, hq2, hq3, hq4, hq5, hq6]
     refine q0 _ ?_
     clear q0 Q0
     refine RAny_takeK 14 rfl (by kernel_rfl) (by kernel_rfl) (by kernel_rfl) (fun _ _ h => h) fun Q0 q0 => ?_
     simp only [↓aops, ↓aop, ↓aWant, ↓aVal, go_sem, seval, rHead, isE, isPE, isSE, isSl, hk, gM hr, RNode.cells, Int.natCast_add, hw, ht0, List.length_append, hb0, ha1, ha2, hl3, hl4, hq1, hq2, hq3, hq4, hq5, hq6]
     refine q0 _ ?_
     clear q0 Q0
     refine RAny_takeK 15 rfl (by kernel_rfl) (by kernel_rfl) (by kernel_rfl) (fun _ _ h => h) fun Q0 q0 => ?_
     simp only [↓aops, ↓aop, ↓aWant, ↓aVal, go_sem, seval, rHead, isE, isPE, isSE, isSl, hk, gM hr, RNode.cells, Int.natCast_add, hw, ht0, List.length_append, hb0, ha1, ha2, hl3, hl4, hq1, hq2, hq3, hq4, hq5, hq6]
     refine q0 _ ?_
     clear q0 Q0
     refine RAny_rest ?_
     refine LAny_all2 (i := 0) (j := 11) (by kernel_rfl) ?_ ?_
     ·
      refine aAt_op rfl rfl fun Q0 q0 => ?_
      simp only [↓aops, ↓aop, ↓aWant, ↓aVal, go_sem, seval, ↓bs0_1, ↓bs0_2, ↓bs0_3, ↓bs0_4, ↓bs0_5, ↓bs0_6, ↓bs0_7, ↓bs0_8, ↓bs0_9, ↓bs0_10, ↓bs0_11, ↓bs0_12, hk, gM hr, RNode.cells, Int.natCast_add, hw, ht0, List.length_append, hb0, ha1, ha2, hl3, hl4, hq1, hq2, hq3, hq4, hq5, hq6]
      refine q0 _ ?_
      clear q0 Q0
      refine LAny_all2 (i := 4) (j := 11) (by kernel_rfl) ?_ ?_
      ·
       refine aAt_op rfl rfl fun Q0 q0 => ?_
       simp only [↓aops, ↓aop, ↓aWant, ↓aVal, go_sem, seval, hk, gM hr, RNode.cells, Int.natCast_add, hw, ht0, List.length_append, hb0, ha1, ha2, hl3, hl4, hq1, hq2, hq3, hq4, hq5, hq6]
       refine q0 _ ?_
       clear q0 Q0
       refine LAny_all1 (i := 11) (by kernel_rfl) ?_
       ·
        refine aAt_op rfl rfl fun Q0 q0 => ?_
        simp only [↓aops, ↓aop, ↓aWant, ↓aVal, go_sem, seval, ↓bs1_1, ↓bs1_2, ↓bs1_3, ↓bs1_4, ↓bs1_5, ↓bs1_6, ↓bs1_7, ↓bs1_8, ↓bs1_9, ↓bs1_10, ↓bs1_11, ↓bs1_12, hk, gM hr, RNode.cells, Int.natCast_add, hw, ht0, List.length_append, hb0, ha1, ha2, hl3, hl4, hq1, hq2, hq3, hq4, hq5, hq6]
        refine q0 _ ?_
        clear q0 Q0
        refine LAny_all1 (i := 12) (by kernel_rfl) ?_
        ·
         refine aAt_op rfl rfl fun Q0 q0 => ?_
         simp only [↓aops, ↓aop, ↓aWant, ↓aVal, go_sem, seval, hk, gM hr, RNode.cells, Int.natCast_add, hw, ht0, List.length_append, hb0, ha1, ha2, hl3, hl4, hq1, hq2, hq3, hq4, hq5, hq6]
         refine q0 _ ?_
         clear q0 Q0
         refine LAny_all1 (i := 16) (by kernel_rfl) ?_
         ·
          refine aAt_op rfl rfl fun Q0 q0 => ?_
          simp only [↓aops, ↓aop, ↓aWant, ↓aVal, go_sem, seval, hk, gM hr, RNode.cells, Int.natCast_add, hw, ht0, List.length_append, hb0, ha1, ha2, hl3, hl4, hq1, hq2, hq3, hq4, hq5, hq6]
          refine q0 _ ?_
          clear q0 Q0
          refine LAny_all1 (i := 17) (by kernel_rfl) ?_
          ·
           refine aAt_op rfl rfl fun Q0 q0 => ?_
           simp only [↓aops, ↓aop, ↓aWant, ↓aVal, go_sem, seval, hk, gM hr, RNode.cells, Int.natCast_add, hw, ht0, List.length_append, hb0, ha1, ha2, hl3, hl4, hq1, hq2, hq3, hq4, hq5, hq6]
           refine q0 _ ?_
           clear q0 Q0
           refine LAny_done (by kernel_rfl) ?_
           simp only [thenQ, blockQ, noGotoQ]
           refine y1 _ ?_
           try clear y1 Y1
           refine AWp_region ?_
           iterate 2 (refine aops_chunk 1 fun Q0 q0 => ?_; simp only [↓aops, ↓aop, ↓aWant, ↓aVal, go_sem, seval, hk, gM hr, RNode.cells, Int.natCast_add, hw, ht0, List.length_append, hb0, ha1, ha2, hl3, hl4, hq1, hq2, hq3, hq4, hq5, hq6]; refine q0 _ ?_; clear q0 Q0; simp only [go_sem])
           simp only [↓aops, ↓aop, ↓aWant, ↓aVal, go_sem, seval, hk, gM hr, RNode.cells, Int.natCast_add, hw, ht0, List.length_append, hb0, ha1, ha2, hl3, hl4, hq1, hq2, hq3, hq4, hq5, hq6]
           refine ⟨(s + 1), (by omega), by omega, ?_⟩
           simp only [maskL, setsL, putsO, putO, mB, List.set_cons_zero, List.set_cons_succ, seval, Int.natCast_add, Int.natCast_one]
           refine Weak.bare ?_ rfl ?_
           ·
            simp only [go_sem, Le.refl, Le.any]
            first | (rw [hst2]; exact Le.oslL) | (rw [hst]; exact Le.refl _)
           · repeat' first | exact trivial | exact .any _ | exact .v _ _ | exact Und.data (RNode.dataSl _) | exact Und.data (dataInts _) | (refine ⟨?_, ?_⟩)
      ·
       refine aAt_op rfl rfl fun Q0 q0 => ?_
       simp only [↓aops, ↓aop, ↓aWant, ↓aVal, go_sem, seval, ↓bs1_1, ↓bs1_2, ↓bs1_3, ↓bs1_4, ↓bs1_5, ↓bs1_6, ↓bs1_7, ↓bs1_8, ↓bs1_9, ↓bs1_10, ↓bs1_11, ↓bs1_12, hk, gM hr, RNode.cells, Int.natCast_add, hw, ht0, List.length_append, hb0, ha1, ha2, hl3, hl4, hq1, hq2, hq3, hq4, hq5, hq6]
       refine q0 _ ?_
       clear q0 Q0
       refine LAny_all1 (i := 4) (by kernel_rfl) ?_
       ·
        refine aAt_op rfl rfl fun Q0 q0 => ?_
        simp only [↓aops, ↓aop, ↓aWant, ↓aVal, go_sem, seval, hk, gM hr, RNode.cells, Int.natCast_add, hw, ht0, List.length_append, hb0, ha1, ha2, hl3, hl4, hq1, hq2, hq3, hq4, hq5, hq6]
        refine q0 _ ?_
        clear q0 Q0
        refine LAny_all1 (i := 12) (by kernel_rfl) ?_
        ·
         refine aAt_op rfl rfl fun Q0 q0 => ?_
         simp only [↓aops, ↓aop, ↓aWant, ↓aVal, go_sem, seval, hk, gM hr, RNode.cells, Int.natCast_add, hw, ht0, List.length_append, hb0, ha1, ha2, hl3, hl4, hq1, hq2, hq3, hq4, hq5, hq6]
         refine q0 _ ?_
         clear q0 Q0
         refine LAny_all1 (i := 16) (by kernel_rfl) ?_
         ·
          refine aAt_op rfl rfl fun Q0 q0 => ?_
          simp only [↓aops, ↓aop, ↓aWant, ↓aVal, go_sem, seval, hk, gM hr, RNode.cells, Int.natCast_add, hw, ht0, List.length_append, hb0, ha1, ha2, hl3, hl4, hq1, hq2, hq3, hq4, hq5, hq6]
          refine q0 _ ?_
          clear q0 Q0
          refine LAny_all1 (i := 17) (by kernel_rfl) ?_
          ·
           refine aAt_op rfl rfl fun Q0 q0 => ?_
           simp only [↓aops, ↓aop, ↓aWant, ↓aVal, go_sem, seval, hk, gM hr, RNode.cells, Int.natCast_add, hw, ht0, List.length_append, hb0, ha1, ha2, hl3, hl4, hq1, hq2, hq3, hq4, hq5, hq6]
           refine q0 _ ?_
           clear q0 Q0
           refine LAny_done (by kernel_rfl) ?_
           simp only [thenQ, blockQ, noGotoQ]
           refine y1 _ ?_
           try clear y1 Y1
           refine AWp_region ?_
           iterate 2 (refine aops_chunk 1 fun Q0 q0 => ?_; simp only [↓aops, ↓aop, ↓aWant, ↓aVal, go_sem, seval, hk, gM hr, RNode.cells, Int.natCast_add, hw, ht0, List.length_append, hb0, ha1, ha2, hl3, hl4, hq1, hq2, hq3, hq4, hq5, hq6]; refine q0 _ ?_; clear q0 Q0; simp only [go_sem])
           simp only [↓aops, ↓aop, ↓aWant, ↓aVal, go_sem, seval, hk, gM hr, RNode.cells, Int.natCast_add, hw, ht0, List.length_append, hb0, ha1, ha2, hl3, hl4, hq1, hq2, hq3, hq4, hq5, hq6]
           refine ⟨(s + 1), (by omega), by omega, ?_⟩
           simp only [maskL, setsL, putsO, putO, mB, List.set_cons_zero, List.set_cons_succ, seval, Int.natCast_add, Int.natCast_one]
           refine Weak.bare ?_ rfl ?_
           ·
            simp only [go_sem, Le.refl, Le.any]
            first | (rw [hst2]; exact Le.oslL) | (rw [hst]; exact Le.refl _)
           · repeat' first | exact trivial | exact .any _ | exact .v _ _ | exact Und.data (RNode.dataSl _) | exact Und.data (dataInts _) | (refine ⟨?_, ?_⟩)
     ·
      refine aAt_op rfl rfl fun Q0 q0 => ?_
      simp only [↓aops, ↓aop, ↓aWant, ↓aVal, go_sem, seval, ↓bs1_1, ↓bs1_2, ↓bs1_3, ↓bs1_4, ↓bs1_5, ↓bs1_6, ↓bs1_7, ↓bs1_8, ↓bs1_9, ↓bs1_10, ↓bs1_11, ↓bs1_12, hk, gM hr, RNode.cells, Int.natCast_add, hw, ht0, List.length_append, hb0, ha1, ha2, hl3, hl4, hq1, hq2, hq3, hq4, hq5, hq6]
      refine q0 _ ?_
      clear q0 Q0
      refine LAny_all1 (i := 0) (by kernel_rfl) ?_
      ·
       refine aAt_op rfl rfl fun Q0 q0 => ?_
       simp only [↓aops, ↓aop, ↓aWant, ↓aVal, go_sem, seval, ↓bs0_1, ↓bs0_2, ↓bs0_3, ↓bs0_4, ↓bs0_5, ↓bs0_6, ↓bs0_7, ↓bs0_8, ↓bs0_9, ↓bs0_10, ↓bs0_11, ↓bs0_12, hk, gM hr, RNode.cells, Int.natCast_add, hw, ht0, List.length_append, hb0, ha1, ha2, hl3, hl4, hq1, hq2, hq3, hq4, hq5, hq6]
       refine q0 _ ?_
       clear q0 Q0
       refine LAny_all1 (i := 4) (by kernel_rfl) ?_
       ·
        refine aAt_op rfl rfl fun Q0 q0 => ?_
        simp only [↓aops, ↓aop, ↓aWant, ↓aVal, go_sem, seval, hk, gM hr, RNode.cells, Int.natCast_add, hw, ht0, List.length_append, hb0, ha1, ha2, hl3, hl4, hq1, hq2, hq3, hq4, hq5, hq6]
        refine q0 _ ?_
        clear q0 Q0
        refine LAny_all1 (i := 12) (by kernel_rfl) ?_
        ·
         refine aAt_op rfl rfl fun Q0 q0 => ?_
         simp only [↓aops, ↓aop, ↓aWant, ↓aVal, go_sem, seval, hk, gM hr, RNode.cells, Int.natCast_add, hw, ht0, List.length_append, hb0, ha1, ha2, hl3, hl4, hq1, hq2, hq3, hq4, hq5, hq6]
         refine q0 _ ?_
         clear q0 Q0
         refine LAny_all1 (i := 16) (by kernel_rfl) ?_
         ·
          refine aAt_op rfl rfl fun Q0 q0 => ?_
          simp only [↓aops, ↓aop, ↓aWant, ↓aVal, go_sem, seval, hk, gM hr, RNode.cells, Int.natCast_add, hw, ht0, List.length_append, hb0, ha1, ha2, hl3, hl4, hq1, hq2, hq3, hq4, hq5, hq6]
          refine q0 _ ?_
          clear q0 Q0
          refine LAny_all1 (i := 17) (by kernel_rfl) ?_
          ·
           refine aAt_op rfl rfl fun Q0 q0 => ?_
           simp only [↓aops, ↓aop, ↓aWant, ↓aVal, go_sem, seval, hk, gM hr, RNode.cells, Int.natCast_add, hw, ht0, List.length_append, hb0, ha1, ha2, hl3, hl4, hq1, hq2, hq3, hq4, hq5, hq6]
           refine q0 _ ?_
           clear q0 Q0
           refine LAny_done (by kernel_rfl) ?_
           simp only [thenQ, blockQ, noGotoQ]
           refine y1 _ ?_
           try clear y1 Y1
           refine AWp_region ?_
           iterate 2 (refine aops_chunk 1 fun Q0 q0 => ?_; simp only [↓aops, ↓aop, ↓aWant, ↓aVal, go_sem, seval, hk, gM hr, RNode.cells, Int.natCast_add, hw, ht0, List.length_append, hb0, ha1, ha2, hl3, hl4, hq1, hq2, hq3, hq4, hq5, hq6]; refine q0 _ ?_; clear q0 Q0; simp only [go_sem])
           simp only [↓aops, ↓aop, ↓aWant, ↓aVal, go_sem, seval, hk, gM hr, RNode.cells, Int.natCast_add, hw, ht0, List.length_append, hb0, ha1, ha2, hl3, hl4, hq1, hq2, hq3, hq4, hq5, hq6]
           refine ⟨(s + 1), (by omega), by omega, ?_⟩
           simp only [maskL, setsL, putsO, putO, mB, List.set_cons_zero, List.set_cons_succ, seval, Int.natCast_add, Int.natCast_one]
           refine Weak.bare ?_ rfl ?_
           ·
            simp only [go_sem, Le.refl, Le.any]
            first | (rw [hst2]; exact Le.oslL) | (rw [hst]; exact Le.refl _)
           · repeat' first | exact trivial | exact .any _ | exact .v _ _ | exact Und.data (RNode.dataSl _) | exact Und.data (dataInts _) | (refine ⟨?_, ?_⟩)
  ·
   have hks : s = g.length := by simp at hb9; omega
   refine AWp_exit ?_
   simp only [thenQ, blockQ, noGotoQ, bA, Nat.reduceEqDiff, ↓reduceIte]
   refine y0 _ ?_
   try clear y0 Y0
   refine AWp_seqK fun Y0 y0 => ?_
   refine AWp_region ?_
   refine aops_chunk 1 fun Q0 q0 => ?_
   simp only [↓aops, ↓aop, ↓aWant, ↓aVal, go_sem, seval]
   refine q0 _ ?_
   clear q0 Q0
   simp only [go_sem]
   simp only [↓aops, ↓aop, ↓aWant, ↓aVal, go_sem, seval]
   refine y0 _ ?_
   try clear y0 Y0
   refine AWp_ret ?_
   try simp only [thenQ, blockQ, noGotoQ, retQ, aRes, tupOf, bS, bA]
   rw [hks, List.take_length]; exact Le.refl _
end Go.Proofs.Ytjjjckjebkmnjaa
namespace Go.Proofs.Ytjjjckjebkmnjaa
open Go Go.Shelf
def keysA_ren : Go.Shelf.Ren := ⟨fun | 7 => 87 | 10 => 100 | n => n, fun | 23 => 104 | 26 => 3 | 3 => 3 | 28 => 125 | 0 => 0 | 27 => 124 | 33 => 80 | 4 => 4 | n => n, fun | n => n⟩
theorem keysA : Go.Proofs.SlLaysZI.n7 Try.prog keysA_ren := {
  mixed := by kernel_rfl
  f7 := ⟨Try.f87.name, by decide, Try.func87.trans (congrArg some (by kernel_rfl))⟩
  f10 := ⟨Try.f100.name, by decide, Try.func100.trans (congrArg some (by kernel_rfl))⟩
  t0 := Try.underlying0
  a0 := Try.isAgg0
  z0 := Try.sizeOf0
  v0 := Try.zeroValue0
  t4 := Try.underlying4
  a4 := Try.isAgg4
  z4 := Try.sizeOf4
  v4 := Try.zeroValue4
  t23 := Try.underlying104
  a23 := Try.isAgg104
  z23 := Try.sizeOf104
  v23 := Try.zeroValue104
  t26 := Try.underlying3
  a26 := Try.isAgg3
  z26 := Try.sizeOf3
  v26 := Try.zeroValue3
  t27 := Try.underlying124
  a27 := Try.isAgg124
  z27 := Try.sizeOf124
  v27 := Try.zeroValue124
  t28 := Try.underlying125
  a28 := Try.isAgg125
  z28 := Try.sizeOf125
  v28 := Try.zeroValue125
  t33 := Try.underlying80
  a33 := Try.isAgg80
  z33 := Try.sizeOf80
  v33 := Try.zeroValue80 }
def sortedA_ren : Go.Shelf.Ren := ⟨fun | 6 => 86 | 8 => 98 | 9 => 99 | 11 => 105 | 13 => 107 | 12 => 106 | 23 => 117 | 24 => 118 | 14 => 108 | 15 => 109 | 16 => 110 | 17 => 111 | 18 => 112 | 19 => 113 | 20 => 114 | 21 => 115 | 22 => 116 | 25 => 119 | 26 => 120 | 27 => 121 | 28 => 122 | 29 => 123 | 30 => 124 | 31 => 125 | n => n, fun | 26 => 3 | 28 => 125 | 24 => 41 | 0 => 0 | 3 => 3 | 37 => 145 | 48 => 154 | 50 => 156 | 4 => 4 | 40 => 148 | 39 => 147 | 45 => 74 | 5 => 5 | 9 => 9 | 51 => 157 | 55 => 161 | 57 => 163 | 58 => 164 | 33 => 80 | n => n, fun | n => n⟩
theorem sortedA : Go.Proofs.SlLaysZI.n6 Try.prog sortedA_ren := {
  mixed := by kernel_rfl
  f6 := ⟨Try.f86.name, by decide, Try.func86.trans (congrArg some (by kernel_rfl))⟩
  f8 := ⟨Try.f98.name, by decide, Try.func98.trans (congrArg some (by kernel_rfl))⟩
  f11 := ⟨Try.f105.name, by decide, Try.func105.trans (congrArg some (by kernel_rfl))⟩
  t0 := Try.underlying0
  a0 := Try.isAgg0
  z0 := Try.sizeOf0
  v0 := Try.zeroValue0
  t24 := Try.underlying41
  a24 := Try.isAgg41
  z24 := Try.sizeOf41
  v24 := Try.zeroValue41
  t26 := Try.underlying3
  a26 := Try.isAgg3
  z26 := Try.sizeOf3
  v26 := Try.zeroValue3
  t28 := Try.underlying125
  a28 := Try.isAgg125
  z28 := Try.sizeOf125
  v28 := Try.zeroValue125
  i26 := by kernel_rfl }
def sortA_ren : Go.Shelf.Ren := ⟨fun | 5 => 99 | 8 => 107 | 7 => 106 | 19 => 117 | 20 => 118 | 10 => 108 | 11 => 109 | 12 => 110 | 13 => 111 | 14 => 112 | 15 => 113 | 16 => 114 | 17 => 115 | 18 => 116 | 30 => 119 | 31 => 120 | 32 => 121 | 33 => 122 | 34 => 123 | 35 => 124 | 40 => 125 | n => n, fun | 23 => 41 | 25 => 3 | 3 => 3 | 32 => 145 | 22 => 41 | 0 => 0 | 44 => 154 | 46 => 156 | 4 => 4 | 36 => 148 | 35 => 147 | 41 => 74 | 5 => 5 | 9 => 9 | 53 => 157 | 57 => 161 | 63 => 163 | 64 => 164 | n => n, fun | n => n⟩
theorem sortA : Go.Proofs.SlLaysM.n5 Try.prog sortA_ren := {
  mixed := by kernel_rfl
  f5 := ⟨Try.f99.name, by decide, Try.func99.trans (congrArg some (by kernel_rfl))⟩
  f7 := ⟨Try.f106.name, by decide, Try.func106.trans (congrArg some (by kernel_rfl))⟩
  f8 := Try.func107.trans (congrArg some (by kernel_rfl))
  f10 := ⟨Try.f108.name, by decide, Try.func108.trans (congrArg some (by kernel_rfl))⟩
  f11 := ⟨Try.f109.name, by decide, Try.func109.trans (congrArg some (by kernel_rfl))⟩
  f12 := ⟨Try.f110.name, by decide, Try.func110.trans (congrArg some (by kernel_rfl))⟩
  f13 := ⟨Try.f111.name, by decide, Try.func111.trans (congrArg some (by kernel_rfl))⟩
  f14 := ⟨Try.f112.name, by decide, Try.func112.trans (congrArg some (by kernel_rfl))⟩
  f15 := ⟨Try.f113.name, by decide, Try.func113.trans (congrArg some (by kernel_rfl))⟩
  f16 := ⟨Try.f114.name, by decide, Try.func114.trans (congrArg some (by kernel_rfl))⟩
  f17 := ⟨Try.f115.name, by decide, Try.func115.trans (congrArg some (by kernel_rfl))⟩
  f18 := ⟨Try.f116.name, by decide, Try.func116.trans (congrArg some (by kernel_rfl))⟩
  f19 := Try.func117.trans (congrArg some (by kernel_rfl))
  f20 := Try.func118.trans (congrArg some (by kernel_rfl))
  f30 := ⟨Try.f119.name, by decide, Try.func119.trans (congrArg some (by kernel_rfl))⟩
  f31 := Try.func120.trans (congrArg some (by kernel_rfl))
  f32 := Try.func121.trans (congrArg some (by kernel_rfl))
  f33 := ⟨Try.f122.name, by decide, Try.func122.trans (congrArg some (by kernel_rfl))⟩
  f34 := ⟨Try.f123.name, by decide, Try.func123.trans (congrArg some (by kernel_rfl))⟩
  f35 := ⟨Try.f124.name, by decide, Try.func124.trans (congrArg some (by kernel_rfl))⟩
  f40 := ⟨Try.f125.name, by decide, Try.func125.trans (congrArg some (by kernel_rfl))⟩
  t0 := Try.underlying0
  a0 := Try.isAgg0
  z0 := Try.sizeOf0
  v0 := Try.zeroValue0
  t3 := Try.underlying3
  a3 := Try.isAgg3
  z3 := Try.sizeOf3
  v3 := Try.zeroValue3
  t4 := Try.underlying4
  a4 := Try.isAgg4
  z4 := Try.sizeOf4
  v4 := Try.zeroValue4
  t5 := Try.underlying5
  a5 := Try.isAgg5
  z5 := Try.sizeOf5
  v5 := Try.zeroValue5
  t9 := Try.underlying9
  a9 := Try.isAgg9
  z9 := Try.sizeOf9
  v9 := Try.zeroValue9
  t22 := Try.underlying41
  a22 := Try.isAgg41
  z22 := Try.sizeOf41
  v22 := Try.zeroValue41
  t23 := Try.underlying41
  a23 := Try.isAgg41
  z23 := Try.sizeOf41
  v23 := Try.zeroValue41
  t25 := Try.underlying3
  a25 := Try.isAgg3
  z25 := Try.sizeOf3
  v25 := Try.zeroValue3
  t32 := Try.underlying145
  a32 := Try.isAgg145
  z32 := Try.sizeOf145
  v32 := Try.zeroValue145
  t35 := Try.underlying147
  a35 := Try.isAgg147
  z35 := Try.sizeOf147
  v35 := Try.zeroValue147
  t36 := Try.underlying148
  a36 := Try.isAgg148
  z36 := Try.sizeOf148
  v36 := Try.zeroValue148
  t41 := Try.underlying74
  a41 := Try.isAgg74
  z41 := Try.sizeOf74
  v41 := Try.zeroValue74
  t44 := Try.underlying154
  a44 := Try.isAgg154
  z44 := Try.sizeOf154
  v44 := Try.zeroValue154
  t46 := Try.underlying156
  a46 := Try.isAgg156
  z46 := Try.sizeOf156
  v46 := Try.zeroValue156
  t53 := Try.underlying157
  a53 := Try.isAgg157
  z53 := Try.sizeOf157
  v53 := Try.zeroValue157
  t57 := Try.underlying161
  a57 := Try.isAgg161
  z57 := Try.sizeOf161
  v57 := Try.zeroValue161
  t63 := Try.underlying163
  a63 := Try.isAgg163
  z63 := Try.sizeOf163
  v63 := Try.zeroValue163
  t64 := Try.underlying164
  a64 := Try.isAgg164
  z64 := Try.sizeOf164
  v64 := Try.zeroValue164 }
end Go.Proofs.Ytjjjckjebkmnjaa
namespace Go.Proofs.Ytjjjckjebkmnjaa
open Go Go.RowKit Go.Maps Go.Sort Go.Shelf Go.WideElems Go.WideShapes
theorem sortsI (m : Nat) : AnyZI.SortsIn Try.prog sortedA_ren Fence.wide m :=
  ⟨fun blk off cap ss W hH hblk hsz => callsIn_wide.2 (AnyM.slices_Sort_int sortA blk off cap ss W hH hblk hsz), fun p cap W => callsIn_wide.2 (AnyM.slices_Sort_int_none sortA p cap W)⟩
theorem Sorted_raw {H : Type} (p b nn : Nat) (D0 : DataW H) (R : Value → Option (DataW H × List MemPlace)) (w : World) (hown : w.ownsMap Try.prog 3 R b nn D0) (hcell : w.cell? ⟨p, 0, none⟩ = some (.map (some b))) (hmax : Maps.size D0 ≤ maxLen) (hbytes : Maps.size D0 * 8 ≤ 140737488355328) :
    Calls Try.prog 86 #[.func (.func 100) #[] #[.pointer (some ⟨p, 0, none⟩)]] w fun e w' => ∃ (v : Value) (ss : List Int), e = .returned v ∧ ss.Perm (intKeys D0) ∧
      w'.ownsRow w.heap.size 3 1 v ss.length ((ss.mergeSort (fun x y => decide (x ≤ y))).map encZ) ∧ (v = .slice none 0 0 ↔ ss = []) ∧ Below w.heap.size w w' := by
  refine (callsIn_wide (n := 5)).1 ?_
  have hseq : SeqGives Fence.wide 2 Try.prog 100 #[.pointer (some ⟨p, 0, none⟩)] encZ (fun ss => ss.Perm (intKeys D0)) (Maps.size D0) w :=
    AnyZI.keys_gives (ρ := keysA_ren) { keysA with } Fence.wide _ trivial rfl (by omega) p b nn D0 w (World.block_lt_of_cell? w _ hcell) hcell hown
  exact AnyZI.sorted_in sortedA Fence.wide 5 trivial trivial trivial trivial rfl (by omega) (sortsI _) (enters_of Try.func99 (by kernel_rfl) rfl) 100 #[.pointer (some ⟨p, 0, none⟩)] trivial (enters_of Try.func100 (by kernel_rfl) rfl) _ _ hmax hbytes _ hseq
def is64 (n : Int) : Prop := -9223372036854775808 ≤ n ∧ n < 9223372036854775808
theorem is64_wf {n : Int} (h : is64 n) : (Lit.int .i64 n).wf = true := by
  obtain ⟨h1, h2⟩ := h
  have e1 : IntKind.i64.min = -9223372036854775808 := by decide
  have e2 : IntKind.i64.max = 9223372036854775807 := by decide
  simp only [Lit.wf, e1, e2, Bool.and_eq_true, decide_eq_true_eq]
  omega
abbrev sortI (l : List Int) : List Int := l.mergeSort fun x y => decide (x ≤ y)
theorem rpInts {E : Env} {A : Nat → Nat → Prop} {w : World} {base n : Nat} {v : Value} {l : List Int} (h : w.ownsRow base 3 1 v n (l.map encZ)) (hA : ∀ b o, A b o → b < base) (hcap : n ≤ maxLen) : Rp E A w (.sl 1 (l.map intC)) v := by
  obtain ⟨hl, h⟩ := h
  have hn : l.length = n := by simpa using hl
  rcases h with ⟨rfl, h0⟩ | ⟨g, cap, cur, rfl, hb, hh, h1, h2, h3, h4⟩
  · have : l = [] := List.eq_nil_of_length_eq_zero (by omega)
    subst this
    exact .sl0 (by simp [maxLen])
  · have hfl : ∀ l : List Int, (l.map intC).flatten = l.map fun x => AV.v (.int .i64 x) := fun l => by
      induction l with
      | nil => rfl
      | cons x l ih => simp [intC, ih]
    have hlen : (l.map intC).flatten.length = n := by rw [hfl, List.length_map, hn]
    have hcur : ∀ j x, l[j]? = some x → cur[j]? = some (encZ x) := fun j x hj => by
      have hjl := (List.getElem?_eq_some_iff.1 hj).1
      have h5 : (l.map encZ)[j]? = some (encZ x) := by rw [List.getElem?_map, hj]; rfl
      rw [← h4, List.getElem?_take, if_pos (by omega)] at h5
      rw [← Array.getElem?_toList]; exact h5
    refine .sl (fun j => cur.getD j undef) (by rw [List.length_map, hn]) h1 h2 (fun x hx => by obtain ⟨y, _, rfl⟩ := List.mem_map.1 hx; rfl) (fun j hj => ⟨?_, fun ha => ?_⟩) fun j c hj => ?_
    · rw [hlen] at hj
      have hlt : j < cur.size := by rw [h3]; omega
      rw [Nat.zero_add, cell_of_row w _ _ cur 3 (0, 0) hh]
      simp [Array.getD, hlt]
    · have := hA _ _ ha; omega
    · rw [hfl, List.getElem?_map] at hj
      cases hx : l[j]? with
      | none => rw [hx] at hj; cases hj
      | some x =>
        rw [hx] at hj
        cases hj
        have h5 := hcur j x hx
        have hlt : j < cur.size := (Array.getElem?_eq_some_iff.1 h5).1
        have h6 : cur.getD j undef = encZ x := by
          rw [Array.getElem?_eq_getElem hlt] at h5
          simp [Array.getD, hlt, Option.some.inj h5]
        rw [h6]
        exact .v _
theorem Sorted_calls {os : Os} {nx p m : Nat} {es : List (Int × AV)} {Q : AV → Os → Nat → Prop} (hp : getO os p = some (.cells 104 [.map m])) (hm : getO os m = some (.map es)) (hwf : ∀ q ∈ es, is64 q.1) (hlen : es.length ≤ 1099511627776)
    (hq : Q (.sl 1 ((sortI (es.map Prod.fst)).map intC)) os nx) : ACalls Try.prog 86 [.clo 100 [.ptr p 0]] os nx Q := by
  refine ⟨⟨Try.f86, Try.func86, by kernel_rfl, rfl⟩, fun A0 E w vs hok hnx hr => ?_⟩
  obtain ⟨hsz, hv⟩ := hr
  have hsz : vs.size = 1 := hsz
  obtain ⟨hvp, cur, hh, hcs, hc⟩ := hok.ok p _ hp
  obtain ⟨hvm, ents, clock, hme, hes, hent, hst⟩ := hok.ok m _ hm
  have hcs : cur.size = 1 := hcs
  have hv0 := hv 0 (.clo 100 [.ptr p 0]) vs[0] rfl (Array.getElem?_eq_getElem (by omega))
  have hvs : vs = #[.func (.func 100) #[] #[.pointer (some ⟨E.blk p, 0, none⟩)]] := by
    have e0 : vs[0] = .func (.func 100) #[] #[.pointer (some ⟨E.blk p, 0, none⟩)] := by
      generalize vs[0] = u at hv0
      cases hv0 with
      | @clo _ _ us hs hr =>
        have hs : us.size = 1 := hs
        have h1 := hr 0 (.ptr p 0) us[0] rfl (Array.getElem?_eq_getElem (by omega))
        have e1 : us[0] = .pointer (some ⟨E.blk p, 0, none⟩) := by
          generalize us[0] = u at h1
          cases h1; rfl
        congr 1
        apply Array.ext (by simp [hs])
        intro i h2 h3
        have : i = 0 := by omega
        subst this
        simpa using e1
    apply Array.ext (by simp [hsz])
    intro i h2 h3
    have : i = 0 := by omega
    subst this
    simpa using e0
  have hcell : w.cell? ⟨E.blk p, 0, none⟩ = some (.map (some (E.blk m))) := by
    have h1 : cur[0]? = some cur[0] := Array.getElem?_eq_getElem (by omega)
    have h2 := hc 0 (.map m) _ rfl h1
    have e2 : cur[0] = .map (some (E.blk m)) := by
      generalize cur[0] = u at h2
      cases h2; rfl
    rw [cell_of_row w _ _ cur 104 (0, 0) hh, h1, e2]
  have hkey : ∀ x ∈ ents.toList, ∃ q ∈ es, x.key = .int .i64 q.1 := fun x hx => by
    obtain ⟨i, hi, rfl⟩ := List.mem_iff_getElem.1 hx
    have hie : i < es.length := by rw [← hes]; simpa using hi
    exact ⟨_, List.getElem_mem hie, (hent i _ _ (List.getElem?_eq_getElem hie) (by rw [← Array.getElem?_toList]; exact List.getElem?_eq_getElem hi)).1⟩
  have hk64 : ∀ x ∈ ents.toList, ∃ n : Int, x.key = .int .i64 n ∧ keyOf Try.prog 3 x.key = some (.int .i64 n) := fun x hx => by
    obtain ⟨q, hq, he⟩ := hkey x hx
    refine ⟨q.1, he, ?_⟩
    rw [he]
    simp [keyOf, Try.underlying3, mapKey, is64_wf (hwf q hq)]
  let R : Value → Option (DataW Unit × List MemPlace) := fun _ => some (.nil, [])
  have hF : Fit Try.prog 3 R ents clock := ⟨by rw [hes]; simp only [maxLen]; omega, hst, fun x hx => by
    obtain ⟨n, _, hk⟩ := hk64 x hx
    exact ⟨_, by simp only [Go.WideElems.rd, hk, R, Option.bind_some, Option.map_some]; rfl⟩⟩
  have hown := World.ownsMap_of_fit (R := R) hme hF (fun x _ z hz => hz)
  have hsize : Maps.size (DataW.map ((ents.toList.map (rg Try.prog 3 R)).foldr DataW.insert [])) = es.length := by
    simp [Maps.size, length_sorted, hes]
  have hperm : (intKeys (DataW.map ((ents.toList.map (rg Try.prog 3 R)).foldr DataW.insert []))).Perm (es.map Prod.fst) := by
    show List.Perm (((ents.toList.map (rg Try.prog 3 R)).foldr DataW.insert []).map fun p => Go.intOf p.1) _
    refine ((sorted_perm _).map _).trans (List.Perm.of_eq ?_)
    apply List.ext_getElem (by simp [hes])
    intro i h1 h2
    simp only [List.getElem_map]
    have hi : i < ents.size := by simpa using h1
    have hie : i < es.length := by rw [← hes]; exact hi
    have he := (hent i _ _ (List.getElem?_eq_getElem hie) (Array.getElem?_eq_getElem hi)).1
    have hx := hwf _ (List.getElem_mem hie)
    simp [Go.WideElems.rg, Go.WideElems.rd, he, keyOf, Try.underlying3, mapKey, is64_wf hx, R, Go.intOf]
  rw [hvs]
  refine (Sorted_raw (E.blk p) (E.blk m) _ _ R w hown hcell (by rw [hsize]; simp only [maxLen]; omega) (by rw [hsize]; omega)).mono ?_
  rintro e w' ⟨v, ss, rfl, hS, hrow, _, hb⟩
  have hsort : ss.mergeSort (fun x y => decide (x ≤ y)) = sortI (es.map Prod.fst) := mergeSort_of_perm_i (hS.trans hperm)
  rw [hsort] at hrow
  have hAv : ∀ b o, AvX A0 E os b o → b < w.heap.size := by
    rintro b o (h | ⟨id, ob, hg, hbk, _⟩)
    · exact hok.bnd b o h
    · exact Ob.blk_lt (hok.ok id ob hg).2 hbk
  have hssl : ss.length ≤ maxLen := by
    have := (hS.trans hperm).length_eq
    rw [List.length_map] at this
    simp only [maxLen]; omega
  exact ⟨_, v, os, nx, E, rfl, hq, rpInts hrow hAv hssl, hok.keep hb, hnx, .refl E, .of_below hb, fun b o ha => .inl ha⟩
end Go.Proofs.Ytjjjckjebkmnjaa
namespace Go.Proofs.Ytjjjckjebkmnjaa
open Go Go.RowKit
set_option maxRecDepth 100000
set_option maxHeartbeats 4000000
set_option linter.unusedSimpArgs false
set_option linter.unusedVariables false
attribute [local irreducible] aops dRun
theorem vC_fst (V : List (Int × Int)) : (V.map vC).map Prod.fst = V.map Prod.fst := by simp [vC, List.map_map, Function.comp_def]
theorem vC_64 {V : List (Int × Int)} (h : ∀ q ∈ V, is64 q.1) : ∀ q ∈ V.map vC, is64 q.1 := fun q hq => by
  obtain ⟨p, hp, rfl⟩ := List.mem_map.1 hq
  exact h p hp
def kindG (G : GS) (i : Int) : Int := if 0 ≤ i ∧ i < (G.N.length : Int) then ((G.N[i.toNat]?).map GNode.k).getD 0 else 0
def nameG (G : GS) (i : Int) : Int × Bool := if kindG G i = 1 then (((G.N[i.toNat]?).map GNode.n).getD 0, true) else (0, false)
theorem kindG_at {G : GS} {i : Int} {x : GNode} (h : 0 ≤ i) (hx : G.N[i.toNat]? = some x) : kindG G i = x.k := by
  have := (List.getElem?_eq_some_iff.1 hx).1
  rw [kindG, if_pos ⟨h, by omega⟩, hx]; rfl
theorem nameG_at {G : GS} {i : Int} {x : GNode} (h : 0 ≤ i) (hx : G.N[i.toNat]? = some x) : nameG G i = if x.k = 1 then (x.n, true) else (0, false) := by
  rw [nameG, kindG_at h hx, hx]; rfl
theorem Keys_at {m : Nat} {os : Os} {nx : Nat} {Q : AV → Os → Nat → Prop} (hq : Q (.clo 100 [.ptr nx 0]) ((nx, .cells 104 [.map m]) :: os) (nx + 1)) : ACalls Try.prog 87 [.map m] os nx Q := by
  refine ACalls_intro Try.func87 (by kernel_rfl) rfl (by rw [Try.ntmps87]; simp) (fun hm => ?_)
  simp only [Try.ntmps87, Try.results87, List.length_cons, List.length_nil, Nat.reduceAdd, Nat.reduceSub, List.replicate_succ, List.replicate_zero, List.cons_append, List.nil_append]
  refine AWp_seqK fun Y0 y0 => ?_
  refine AWp_region ?_
  refine aops_chunk 1 fun Q0 q0 => ?_
  simp only [↓aops, ↓aop, ↓aWant, ↓aVal, go_sem, seval]
  refine q0 _ ?_
  clear q0 Q0
  simp only [go_sem]
  simp only [↓aops, ↓aop, ↓aWant, ↓aVal, go_sem, seval]
  refine y0 _ ?_
  try clear y0 Y0
  refine AWp_seqK fun Y0 y0 => ?_
  refine AWp_region ?_
  refine aops_chunk 1 fun Q0 q0 => ?_
  simp only [↓aops, ↓aop, ↓aWant, ↓aVal, go_sem, seval]
  refine q0 _ ?_
  clear q0 Q0
  simp only [go_sem]
  simp only [↓aops, ↓aop, ↓aWant, ↓aVal, go_sem, seval]
  refine y0 _ ?_
  try clear y0 Y0
  refine AWp_ret ?_
  try simp only [thenQ, blockQ, noGotoQ, retQ, aRes, tupOf, bS, bA]
  exact hq
theorem GVars_calls (G : GS) (hw : ∀ q ∈ G.V, is64 q.1) (hl : G.V.length ≤ 1099511627776) : GCalls 61 [.ptr 0 0] (G.N) (G.V) (.sl 1 ((sortI (G.V.map Prod.fst)).map intC)) (G.N) (G.V) := by
  refine ACalls.clean (C := fun r os => r = _ ∧ os = _) ?_
  refine ACalls_intro Try.func61 (by kernel_rfl) rfl (by rw [Try.ntmps61]; simp) (fun hm => ?_)
  simp only [Try.ntmps61, Try.results61, List.length_cons, List.length_nil, Nat.reduceAdd, Nat.reduceSub, List.replicate_succ, List.replicate_zero, List.cons_append, List.nil_append]
  simp only [gObs, enumO, Nat.reduceAdd]
  refine AWp_seqK fun Y0 y0 => ?_
  refine AWp_region ?_
  simp only [↓aops, ↓aop, ↓aWant, ↓aVal, go_sem, seval]
  refine y0 _ ?_
  try clear y0 Y0
  refine AWp_seqK fun Y0 y0 => ?_
  refine AWp_seqK fun Y1 y1 => ?_
  refine AWp_region ?_
  refine aops_chunk 1 fun Q0 q0 => ?_
  simp only [↓aops, ↓aop, ↓aWant, ↓aVal, go_sem, seval]
  refine q0 _ ?_
  clear q0 Q0
  simp only [go_sem]
  simp only [↓aops, ↓aop, ↓aWant, ↓aVal, go_sem, seval]
  refine y1 _ ?_
  try clear y1 Y1
  refine AWp_cond rfl (fun hb4 => ?_) (fun hb4 => ?_)
  ·
   cases hb4
  ·
   refine AWp_skip ?_
   try simp only [thenQ, blockQ, noGotoQ]
   refine y0 _ ?_
   try clear y0 Y0
   refine AWp_seqK fun Y0 y0 => ?_
   refine AWp_region ?_
   iterate 4 (refine aops_chunk 1 fun Q0 q0 => ?_; simp only [↓aops, ↓aop, ↓aWant, ↓aVal, go_sem, seval]; refine q0 _ ?_; clear q0 Q0; simp only [go_sem])
   refine aops_chunk 1 fun Q0 q0 => ?_
   simp only [↓aops, ↓aop, ↓aWant, ↓aVal, go_sem, seval]
   refine Keys_at ?_
   try simp only [bS, bA, thenQ, blockQ, noGotoQ]
   refine q0 _ ?_
   clear q0 Q0
   simp only [go_sem]
   refine aops_chunk 1 fun Q0 q0 => ?_
   simp only [↓aops, ↓aop, ↓aWant, ↓aVal, go_sem, seval]
   refine Sorted_calls (p := 3) (m := 2) (es := G.V.map vC) rfl rfl (vC_64 hw) (by rw [List.length_map]; exact hl) ?_
   rw [vC_fst]
   try simp only [bS, bA, thenQ, blockQ, noGotoQ]
   refine q0 _ ?_
   clear q0 Q0
   simp only [go_sem]
   simp only [↓aops, ↓aop, ↓aWant, ↓aVal, go_sem, seval]
   refine y0 _ ?_
   try clear y0 Y0
   refine AWp_ret ?_
   try simp only [thenQ, blockQ, noGotoQ, retQ, aRes, tupOf, bS, bA]
   refine ⟨_, enumO 0 (gObs (G.N) (G.V)), ⟨rfl, rfl⟩, Und.data (dataInts _), gUnd (by omega) _ _, ?_, ?_, by omega⟩
   ·
    refine Le.of_eq ?_
    rfl
   · first | (refine ⟨1, ?_, rfl⟩; first | rfl | (simp only [gObs, enumO, List.drop_succ_cons, List.drop_zero, List.map_append, List.map_cons, List.map_nil, List.length_append, List.length_cons, List.length_nil, GNode.cells, List.take_length, Nat.reduceAdd, Nat.zero_add]; done))
end Go.Proofs.Ytjjjckjebkmnjaa
namespace Go.Proofs.Ytjjjckjebkmnjaa
open Go Go.RowKit
def vns (m : List RNode) : List Int := (m.filter fun r => r.t.k == 1).map fun r => r.t.n
theorem vns_app (m : List RNode) (r : RNode) : vns (m ++ [r]) = if r.t.k = 1 then vns m ++ [r.t.n] else vns m := by
  unfold vns
  rw [List.filter_append]
  by_cases h : r.t.k = 1
  · simp [h]
  · simp [h]
theorem vset_none {V : List (Int × Int)} {k : Int} (x : Int) (h : vfind V k = none) : vset V k x = V ++ [(k, x)] := by
  induction V with
  | nil => rfl
  | cons a V ih =>
    obtain ⟨a, b⟩ := a
    simp only [vfind] at h
    split at h
    · cases h
    · rename_i hne
      simp only [vset, if_neg hne, ih h, List.cons_append]
theorem keys_addL : ∀ (ps : List Ty) (_ : ∀ p ∈ ps, ∀ (G : GS) (m : List RNode), Rel G m → G.V.map Prod.fst = vns m → (p.gadd G).1.V.map Prod.fst = vns (p.radd m).1 ∧ Rel (p.gadd G).1 (p.radd m).1) (G : GS) (m : List RNode) (l l' : List Int), Rel G m → G.V.map Prod.fst = vns m →
    (Ty.gaddL ps G l).1.V.map Prod.fst = vns (Ty.raddL ps m l').1
  | [], _, G, m, l, l', _, h => by simpa [Ty.gaddL, Ty.raddL] using h
  | p :: ps, hp, G, m, l, l', hr, h => by
    obtain ⟨h1, h2⟩ := hp p (by simp) G m hr h
    simp only [Ty.gaddL, Ty.raddL]
    exact keys_addL ps (fun q hq => hp q (by simp [hq])) _ _ _ _ h2 h1
theorem keys_add : ∀ (T : Ty), T.right = true → T.cnt ≤ 400 → ∀ (G : GS) (m : List RNode), Rel G m → G.V.map Prod.fst = vns m → (T.gadd G).1.V.map Prod.fst = vns (T.radd m).1 := by
  refine Ty.ind fun T ih => ?_
  intro hr hc G m h hk
  obtain ⟨hok, hps⟩ := T.right_ok hr
  by_cases h1 : T.k = 1
  · have hps0 : T.ps = [] := by rw [T.var_eq hr h1]; rfl
    rcases h.vars T.n with ⟨hv, hi⟩ | ⟨k, hv, hi, h0⟩
    · have em : T.radd m = (m ++ [⟨T, []⟩], (m.length : Int)) := by rw [Ty.radd_eq, if_neg (by omega), hps0]; rfl
      rw [Ty.gadd_var h1, hv, em]
      simp only
      rw [vset_none _ hv, List.map_append, hk, vns_app, if_pos h1]; rfl
    · rw [Ty.gadd_var h1, hv, Ty.radd_eq, hi, if_pos ⟨h1, h0⟩]
      exact hk
  · rw [Ty.gadd_more h1, Ty.radd_eq, if_neg (by omega)]
    simp only
    rw [vns_app, if_neg h1]
    exact keys_addL T.ps (fun p hp G m hr' hk' => ⟨ih p hp (hps p hp) (Nat.le_trans (Ty.cnt_le_mem hp) hc) G m hr' hk', (rel_add p (hps p hp) (Nat.le_trans (Ty.cnt_le_mem hp) hc) G m hr').rel⟩) G m [] [] h hk
theorem insI_perm (n : Int) (l : List Int) : (insI n l).Perm (n :: l) := by
  unfold insI
  refine List.perm_middle.trans ?_
  rw [List.takeWhile_append_dropWhile]
theorem takeWhile_mem {p : Int → Bool} : ∀ {l : List Int} {x : Int}, x ∈ l.takeWhile p → x ∈ l ∧ p x = true
  | a :: l, x, h => by
    rw [List.takeWhile_cons] at h
    split at h
    · rename_i ha
      rcases List.mem_cons.1 h with rfl | h
      · exact ⟨by simp, ha⟩
      · exact ⟨by simp [(takeWhile_mem h).1], (takeWhile_mem h).2⟩
    · cases h
theorem dropWhile_ge {n : Int} : ∀ {l : List Int}, l.Pairwise (fun a b => a ≤ b) → ∀ x ∈ l.dropWhile (fun y => decide (y < n)), n ≤ x
  | [], _, x, h => by simp at h
  | a :: l, hs, x, h => by
    rw [List.dropWhile_cons] at h
    have hs' := List.pairwise_cons.1 hs
    split at h
    · exact dropWhile_ge hs'.2 x h
    · rename_i ha
      have ha : n ≤ a := by simpa using ha
      rcases List.mem_cons.1 h with rfl | h
      · exact ha
      · have := hs'.1 x h; omega
theorem insI_sorted {n : Int} {l : List Int} (h : l.Pairwise (fun a b => a ≤ b)) : (insI n l).Pairwise (fun a b => a ≤ b) := by
  have hlt : ∀ x ∈ l.takeWhile (fun y => decide (y < n)), x < n := fun x hx => by simpa using (takeWhile_mem hx).2
  have hge := dropWhile_ge (n := n) h
  have hsp : (l.takeWhile (fun y => decide (y < n)) ++ l.dropWhile (fun y => decide (y < n))).Pairwise (fun a b => a ≤ b) := by rw [List.takeWhile_append_dropWhile]; exact h
  obtain ⟨h1, h2, h3⟩ := List.pairwise_append.1 hsp
  unfold insI
  refine List.pairwise_append.2 ⟨h1, List.pairwise_cons.2 ⟨hge, h2⟩, fun a ha b hb => ?_⟩
  have := hlt a ha
  rcases List.mem_cons.1 hb with rfl | hb
  · omega
  · have := hge b hb; omega
theorem varsI_spec : ∀ (m : List RNode) (l : List Int), l.Pairwise (fun a b => a ≤ b) → (m.foldl varsS l).Pairwise (fun a b => a ≤ b) ∧ (m.foldl varsS l).Perm (l ++ vns m)
  | [], l, h => by simpa [vns] using h
  | r :: m, l, h => by
    have key : (varsS l r).Pairwise (fun a b => a ≤ b) ∧ (varsS l r ++ vns m).Perm (l ++ vns (r :: m)) := by
      unfold varsS
      by_cases hk : r.t.k = 1
      · rw [if_pos hk]
        refine ⟨insI_sorted h, ?_⟩
        have e : vns (r :: m) = r.t.n :: vns m := by simp [vns, hk]
        rw [e]
        exact ((insI_perm _ _).append_right _).trans List.perm_middle.symm
      · rw [if_neg hk]
        have e : vns (r :: m) = vns m := by simp [vns, hk]
        rw [e]
        exact ⟨h, .refl _⟩
    obtain ⟨h1, h2⟩ := varsI_spec m (varsS l r) key.1
    exact ⟨h1, h2.trans key.2⟩
theorem varsI_eq (m : List RNode) : varsI m = sortI (vns m) := by
  obtain ⟨h1, h2⟩ := varsI_spec m [] .nil
  have tr : ∀ a b c : Int, decide (a ≤ b) = true → decide (b ≤ c) = true → decide (a ≤ c) = true := fun a b c h1 h2 => by simp only [decide_eq_true_eq] at *; omega
  have to : ∀ a b : Int, (decide (a ≤ b) || decide (b ≤ a)) = true := fun a b => by simp only [Bool.or_eq_true, decide_eq_true_eq]; omega
  have h3 := List.pairwise_mergeSort (le := fun x y : Int => decide (x ≤ y)) tr to (vns m)
  refine List.Perm.eq_of_pairwise (le := fun a b : Int => a ≤ b) (fun a b _ _ h1 h2 => by omega) h1 (h3.imp fun h => by simpa using h) (h2.trans (List.mergeSort_perm _ _).symm)
theorem vns_64 {G : GS} {m : List RNode} (h : Rel G m) : ∀ n ∈ vns m, is64 n := fun n hn => by
  unfold vns at hn
  obtain ⟨r, hr, rfl⟩ := List.mem_map.1 hn
  obtain ⟨hrm, hk⟩ := List.mem_filter.1 hr
  obtain ⟨i, hi⟩ := List.mem_iff_getElem?.1 hrm
  have hl := (List.getElem?_eq_some_iff.1 hi).1
  have hGi : G.N[i]? = some (G.N[i]'(by have := h.len; omega)) := List.getElem?_eq_getElem (by have := h.len; omega)
  have hright := (h.node i _ _ hGi hi).2.2.2.2.2.1
  have hok := (r.t.right_ok hright).1
  have hk1 : r.t.k = 1 := by simpa using hk
  simp only [okN, decide_eq_true_eq] at hok
  unfold is64
  omega
theorem Rel.at {G : GS} {m : List RNode} (h : Rel G m) {i : Nat} {r : RNode} (hr : m[i]? = some r) : ∃ x, G.N[i]? = some x ∧ kindG G (i : Int) = r.t.k ∧ G.parts (i : Int) = r.parts ∧ nameG G (i : Int) = if r.t.k = 1 then (r.t.n, true) else (0, false) := by
  have hl := (List.getElem?_eq_some_iff.1 hr).1
  obtain ⟨x, hGi⟩ : ∃ x, G.N[i]? = some x := ⟨_, List.getElem?_eq_getElem (by have := h.len; omega)⟩
  obtain ⟨h1, h2, h3, _⟩ := h.node i _ _ hGi hr
  refine ⟨_, hGi, ?_, ?_, ?_⟩
  · rw [kindG_at (x := x) (by omega) (by rw [Int.toNat_natCast]; exact hGi), h1]
  · rw [GS.parts_in (x := x) (by omega) (by rw [Int.toNat_natCast]; exact hGi), h3]
  · rw [nameG_at (x := x) (by omega) (by rw [Int.toNat_natCast]; exact hGi), h1, h2]
end Go.Proofs.Ytjjjckjebkmnjaa
namespace Go.Proofs.Ytjjjckjebkmnjaa
open Go Go.RowKit
def OkE (l : List (Ty × Ty)) : Prop := ∀ e ∈ l, e.1.right = true ∧ e.2.right = true ∧ e.1.cnt ≤ 400 ∧ e.2.cnt ≤ 400
theorem eqF_pre1 {l : List (Ty × Ty)} {e : Ty × Ty} (h : OkE (l ++ [e])) : Pre (eqF l).1 (eqF (l ++ [e])).1 := by
  obtain ⟨⟨G, hG⟩, _⟩ := eqF_ok l fun x hx => h x (by simp [hx])
  obtain ⟨h1, h2, h3, h4⟩ := h e (by simp)
  have s1 := rel_add e.1 h1 h3 G _ hG
  have s2 := rel_add e.2 h2 h4 _ _ s1.rel
  rw [eqF_snoc]
  exact s1.pre.trans s2.pre
theorem eqF_nat2 (l : List (Ty × Ty)) (e : Ty × Ty) : ∀ x ∈ nat2 (eqF l).2, x ∈ nat2 (eqF (l ++ [e])).2 := fun x hx => by
  rw [eqF_snoc]
  simp only [eqStep, nat2, List.map_append, List.mem_append]
  exact .inl hx
theorem eqF_more : ∀ (k l : List (Ty × Ty)), OkE (l ++ k) → Pre (eqF l).1 (eqF (l ++ k)).1 ∧ ∀ x ∈ nat2 (eqF l).2, x ∈ nat2 (eqF (l ++ k)).2
  | [], l, _ => by simp only [List.append_nil]; exact ⟨.refl _, fun _ h => h⟩
  | e :: k, l, h => by
    have e1 : l ++ e :: k = (l ++ [e]) ++ k := by simp
    rw [e1] at h ⊢
    obtain ⟨h1, h2⟩ := eqF_more k (l ++ [e]) h
    exact ⟨(eqF_pre1 fun x hx => h x (by simp only [List.mem_append] at hx ⊢; exact .inl hx)).trans h1, fun x hx => h2 x (eqF_nat2 l e x hx)⟩
theorem Clashes.more {l k : List (Ty × Ty)} (h : Clashes l) (hk : OkE (l ++ k)) : Clashes (l ++ k) := by
  obtain ⟨h1, h2⟩ := eqF_more k l hk
  exact Clash.mono h1.sh h2 h
structure CSt (l : List (Ty × Ty)) (S : CS) : Prop where
  st : (Holds l S ∧ S.G.V.map Prod.fst = vns (eqF l).1) ∨ (S.clash = true ∧ Clashes l)
  len : S.G.N.length ≤ sumP l
  ok : OkE l
theorem CSt.none : CSt [] CS0 := ⟨.inl ⟨Holds.none, rfl⟩, by simp [CS0], fun e he => by cases he⟩
theorem CSt.good {l : List (Ty × Ty)} {S : CS} (h : CSt l S) (hc : S.clash = false) : Holds l S ∧ S.G.V.map Prod.fst = vns (eqF l).1 := by
  rcases h.st with h | h
  · exact h
  · rw [hc] at h; cases h.1
theorem CSt.bad {l : List (Ty × Ty)} {S : CS} (h : CSt l S) (hc : S.clash = true) : Clashes l := by
  rcases h.st with h | h
  · rw [h.1.1] at hc; cases hc
  · exact h.2
theorem CSt.step {l : List (Ty × Ty)} {S : CS} {e : Ty × Ty} {s : CS × Int} (h : CSt l S) (he : e.1.right = true ∧ e.2.right = true ∧ e.1.cnt ≤ 400 ∧ e.2.cnt ≤ 400) (hs : EqR S (nat2 (eqF l).2) (eqF l).1 e.1 e.2 s) : CSt (l ++ [e]) s.1 := by
  have hok : OkE (l ++ [e]) := fun x hx => by
    rcases List.mem_append.1 hx with hx | hx
    · exact h.ok x hx
    · simp at hx; subst hx; exact he
  have hsum := sumP_snoc l e
  have hlen := h.len
  rcases h.st with ⟨hH, hK⟩ | ⟨hc, hcl⟩
  · have hG : s.1.G = (e.2.gadd (e.1.gadd S.G).1).1 := by
      rcases hs with ⟨h1, _⟩ | ⟨_, h1, _⟩ | ⟨_, _, _, h3, _⟩
      · rw [hH.1] at h1; cases h1
      · rw [he.1, he.2.1] at h1; cases h1
      · exact h3
    have hle : s.1.G.N.length ≤ sumP (l ++ [e]) := by
      have g1 := e.1.gadd_inv S.G hH.2.w.c.g
      have g2 := e.2.gadd_inv _ g1.1.inv
      have := g1.1.le
      have := g2.1.le
      rw [hG]; omega
    refine ⟨?_, hle, hok⟩
    rcases hH.step (e := e) hs with ⟨h1, _⟩ | ⟨_, h1, h2⟩ | ⟨_, _, _, h3, _⟩
    · rw [he.1, he.2.1] at h1; cases h1
    · refine .inr ⟨?_, h1⟩
      rcases hs with ⟨h4, _⟩ | ⟨_, h4, _⟩ | ⟨_, _, _, _, ⟨h4, _⟩ | ⟨_, h4, _⟩⟩
      · rw [hH.1] at h4; cases h4
      · rw [he.1, he.2.1] at h4; cases h4
      · rw [h4] at h2; cases h2
      · exact h4
    · refine .inl ⟨h3, ?_⟩
      have s1 := rel_add e.1 he.1 he.2.2.1 S.G _ hH.2.rel
      have k1 := keys_add e.1 he.1 he.2.2.1 S.G _ hH.2.rel hK
      have k2 := keys_add e.2 he.2.1 he.2.2.2 _ _ s1.rel k1
      rw [hG, k2, eqF_snoc]; rfl
  · rcases hs with ⟨_, rfl⟩ | ⟨h1, _⟩ | ⟨h1, _⟩
    · exact ⟨.inr ⟨hc, hcl.more hok⟩, by simp only; omega, hok⟩
    · rw [hc] at h1; cases h1
    · rw [hc] at h1; cases h1
theorem CSt.fsame {l : List (Ty × Ty)} {S S1 : CS} (h : CSt l S) (k : FSame S.F S1.F) (e : S1 = { S with F := S1.F }) : CSt l S1 := by
  have hst := h.st
  have hlen := h.len
  have hok := h.ok
  have e1 : S1.G = S.G := by rw [e]
  have e2 : S1.clash = S.clash := by rw [e]
  refine ⟨?_, by rw [e1]; exact hlen, hok⟩
  rcases hst with ⟨h1, h2⟩ | ⟨h1, h2⟩
  · exact .inl ⟨h1.fsame k e, by rw [e1]; exact h2⟩
  · exact .inr ⟨by rw [e2]; exact h1, h2⟩
def SameR (S : CS) (a b : Int) (r : Bool) : Prop := r = true ↔ S.clash = false ∧ ∃ i k, vfind S.G.V a = some i ∧ vfind S.G.V b = some k ∧ One S.F.up i.toNat k.toNat
def KindR (S : CS) (n : Int) (k : Int) : Prop := ((S.clash = true ∨ vfind S.G.V n = none) ∧ k = 0) ∨ (S.clash = false ∧ ∃ (i : Int) (r : Nat) (x : Int), vfind S.G.V n = some i ∧ Rt S.F.up i.toNat r ∧ S.W[r]? = some x ∧ ((x < 0 ∧ k = 0) ∨ (0 ≤ x ∧ ∃ g, S.G.N[x.toNat]? = some g ∧ k = g.k)))
end Go.Proofs.Ytjjjckjebkmnjaa
namespace Go.Proofs.Ytjjjckjebkmnjaa
open Go Go.RowKit
set_option maxRecDepth 100000
set_option maxHeartbeats 4000000
set_option linter.unusedSimpArgs false
set_option linter.unusedVariables false
attribute [local irreducible] aops dRun
def EqT.ok (e : EqT) : Bool := e.l.right && e.r.right
def rightsE (es : List EqT) : List EqT := es.filter EqT.ok
theorem rightsE_yes {es : List EqT} {s : Nat} {e : EqT} (h : es[s]? = some e) (hr : e.ok = true) : rightsE (es.take (s + 1)) = rightsE (es.take s) ++ [e] := by
  rw [List.take_add_one, h, rightsE, List.filter_append]; simp [rightsE, hr]
theorem rightsE_no {es : List EqT} {s : Nat} {e : EqT} (h : es[s]? = some e) (hr : e.ok = false) : rightsE (es.take (s + 1)) = rightsE (es.take s) := by
  rw [List.take_add_one, h, rightsE, List.filter_append]; simp [rightsE, hr]
theorem rightsE_len (es : List EqT) : (rightsE es).length ≤ es.length := List.length_filter_le _ _
theorem EqT.one (l : List EqT) : ((l.map EqT.cells).all fun y => y.all AV.one) = true := by
  induction l with
  | nil => rfl
  | cons e l ih => rw [List.map_cons, List.all_cons, ih]; rfl
theorem Rights12_pure (es : List EqT) (hl : es.length ≤ 1048576) : APure Try.prog 17 [.sl 8 (es.map EqT.cells)] (.sl 8 ((rightsE es).map EqT.cells)) := by
  refine APure.mkL (.cons (EqT.dataSl es) .nil) (EqT.dataSl _) ?_
  refine ACalls_intro Try.func17 (by kernel_rfl) rfl (by rw [Try.ntmps17]; simp) (fun hm => ?_)
  simp only [Try.ntmps17, Try.results17, List.length_cons, List.length_nil, Nat.reduceAdd, Nat.reduceSub, List.replicate_succ, List.replicate_zero, List.cons_append, List.nil_append]
  iterate 2 (refine AWp_seqK fun Y0 y0 => ?_; refine AWp_region ?_; simp only [↓aops, ↓aop, ↓aWant, ↓aVal, go_sem, seval]; refine y0 _ ?_; (try clear y0 Y0))
  refine AWp_seqK fun Y0 y0 => ?_
  refine AWp_seqK fun Y1 y1 => ?_
  refine AWp_region ?_
  simp only [↓aops, ↓aop, ↓aWant, ↓aVal, go_sem, seval]
  refine y1 _ ?_
  try clear y1 Y1
  refine AWp_block ?_
  refine AWp_weak (Weak.tokSlot 3 34 8 rfl) ?_
  simp only [List.set_cons_zero, List.set_cons_succ]
  refine AWp_loopM (σ := Nat) (mB 33 25) (fun s => s ≤ es.length) (fun s => [(3, .osl 0 8 ((rightsE (es.take s)).map EqT.cells)), (4, .v (.int .i64 (s : Int)))]) (fun s => [(0, .tok 34 8 (rightsE (es.take s)).length)]) (fun s => es.length - s) 0 (by omega) ?_ (fun s hs => ?_)
  ·
   simp only [maskL, setsL, putsO, putO, mB, List.set_cons_zero, List.set_cons_succ, seval, bL, rightsE, List.filter_nil]
   exact Weak.mk (by simp only [go_sem, Le.refl, Le.any, Le.slNil, Int.natCast_add, Int.cast_ofNat_Int, Int.natCast_one]) (fun _ _ h => h) rfl rfl
  simp only [maskL, setsL, putsO, putO, mB, List.set_cons_zero, List.set_cons_succ, seval]
  refine AWp_seqK fun Y1 y1 => ?_
  refine AWp_seqK fun Y2 y2 => ?_
  refine AWp_region ?_
  iterate 3 (refine aops_chunk 1 fun Q0 q0 => ?_; simp only [↓aops, ↓aop, ↓aWant, ↓aVal, go_sem, seval]; refine q0 _ ?_; clear q0 Q0; simp only [go_sem])
  simp only [↓aops, ↓aop, ↓aWant, ↓aVal, go_sem, seval]
  refine y2 _ ?_
  try clear y2 Y2
  refine AWp_cond rfl (fun hb8 => ?_) (fun hb8 => ?_)
  ·
   have hk : s < es.length := by simpa using hb8
   obtain ⟨e, he⟩ : ∃ e, es[s]? = some e := ⟨_, List.getElem?_eq_getElem hk⟩
   have hw : IntKind.i64.wrap ((s : Int) + 1) = (s : Int) + 1 := wrap_in (by omega) (by omega)
   have hrl := rightsE_len (es.take s)
   have hrt : (es.take s).length ≤ s := by simp; omega
   have hb1 : ((rightsE (es.take s)).length + 1) * 96 ≤ 140737488355328 := by omega
   have hb2 : (rightsE (es.take s)).length + 1 ≤ maxLen := by simp only [maxLen]; omega
   refine AWp_skip ?_
   try simp only [thenQ, blockQ, noGotoQ]
   refine y1 _ ?_
   try clear y1 Y1
   refine AWp_seqK fun Y1 y1 => ?_
   refine AWp_block ?_
   refine AWp_seqK fun Y2 y2 => ?_
   refine AWp_region ?_
   iterate 5 (refine aops_chunk 1 fun Q0 q0 => ?_; simp only [↓aops, ↓aop, ↓aWant, ↓aVal, go_sem, seval, hk, gM he, EqT.cells, Ty.refold, hw, hb1, hb2, Int.natCast_add]; refine q0 _ ?_; clear q0 Q0; simp only [go_sem])
   refine aops_chunk 1 fun Q0 q0 => ?_
   simp only [↓aops, ↓aop, ↓aWant, ↓aVal, go_sem, seval, hk, gM he, EqT.cells, Ty.refold, hw, hb1, hb2, Int.natCast_add]
   refine APure.call (RefRight_pure e.l) ?_
   try simp only [bS, bA, thenQ, blockQ, noGotoQ]
   refine q0 _ ?_
   clear q0 Q0
   simp only [go_sem]
   refine aops_chunk 1 fun Q0 q0 => ?_
   simp only [↓aops, ↓aop, ↓aWant, ↓aVal, go_sem, seval, hk, gM he, EqT.cells, Ty.refold, hw, hb1, hb2, Int.natCast_add]
   refine q0 _ ?_
   clear q0 Q0
   simp only [go_sem]
   refine aops_case 17 rfl (fun hc17 => ?_) (fun hc17 => ?_)
   ·
    simp only [List.set_cons_zero, List.set_cons_succ]
    have hl1 : e.l.right = true := by simpa using hc17
    iterate 5 (refine aops_chunk 1 fun Q0 q0 => ?_; simp only [↓aops, ↓aop, ↓aWant, ↓aVal, go_sem, seval, hk, gM he, EqT.cells, Ty.refold, hw, hb1, hb2, Int.natCast_add]; refine q0 _ ?_; clear q0 Q0; simp only [go_sem])
    refine aops_chunk 1 fun Q0 q0 => ?_
    simp only [↓aops, ↓aop, ↓aWant, ↓aVal, go_sem, seval, hk, gM he, EqT.cells, Ty.refold, hw, hb1, hb2, Int.natCast_add]
    refine APure.call (RefRight_pure e.r) ?_
    try simp only [bS, bA, thenQ, blockQ, noGotoQ]
    refine q0 _ ?_
    clear q0 Q0
    simp only [go_sem]
    simp only [↓aops, ↓aop, ↓aWant, ↓aVal, go_sem, seval, hk, gM he, EqT.cells, Ty.refold, hw, hb1, hb2, Int.natCast_add]
    refine y2 _ ?_
    try clear y2 Y2
    refine AWp_cond rfl (fun hb24 => ?_) (fun hb24 => ?_)
    ·
     have hyes : e.ok = true := by (have h9 : e.r.right = true := by simpa using hb24); rw [EqT.ok, hl1, h9]; rfl
     have hst := rightsE_yes he hyes
     refine AWp_region ?_
     iterate 5 (refine aops_chunk 1 fun Q0 q0 => ?_; simp only [↓aops, ↓aop, ↓aWant, ↓aVal, go_sem, seval, hk, gM he, EqT.cells, Ty.refold, hw, hb1, hb2, Int.natCast_add, hst, List.map_append, List.length_append]; refine q0 _ ?_; clear q0 Q0; simp only [go_sem])
     refine aops_chunk 1 fun Q0 q0 => ?_
     simp only [↓aops, ↓aop, ↓aWant, ↓aVal, go_sem, seval, ↓bs1_1, ↓bs1_2, ↓bs1_3, ↓bs1_4, ↓bs1_5, ↓bs1_6, ↓bs1_7, ↓bs1_8, ↓bs1_9, ↓bs1_10, ↓bs1_11, ↓bs1_12, hk, gM he, EqT.cells, Ty.refold, hw, hb1, hb2, Int.natCast_add, hst, List.map_append, List.length_append]
     refine q0 _ ?_
     clear q0 Q0
     simp only [go_sem]
     refine aops_chunk 1 fun Q0 q0 => ?_
     simp only [↓aops, ↓aop, ↓aWant, ↓aVal, go_sem, seval, hk, gM he, EqT.cells, Ty.refold, hw, hb1, hb2, Int.natCast_add, hst, List.map_append, List.length_append]
     refine q0 _ ?_
     clear q0 Q0
     simp only [go_sem]
     simp only [↓aops, ↓aop, ↓aWant, ↓aVal, go_sem, seval, hk, gM he, EqT.cells, Ty.refold, hw, hb1, hb2, Int.natCast_add, hst, List.map_append, List.length_append]
     refine y1 _ ?_
     try clear y1 Y1
     refine AWp_region ?_
     iterate 2 (refine aops_chunk 1 fun Q0 q0 => ?_; simp only [↓aops, ↓aop, ↓aWant, ↓aVal, go_sem, seval, hk, gM he, EqT.cells, Ty.refold, hw, hb1, hb2, Int.natCast_add, hst, List.map_append, List.length_append]; refine q0 _ ?_; clear q0 Q0; simp only [go_sem])
     simp only [↓aops, ↓aop, ↓aWant, ↓aVal, go_sem, seval, hk, gM he, EqT.cells, Ty.refold, hw, hb1, hb2, Int.natCast_add, hst, List.map_append, List.length_append]
     refine ⟨(s + 1), (by omega), by omega, ?_⟩
     simp only [maskL, setsL, putsO, putO, mB, List.set_cons_zero, List.set_cons_succ, seval, hk, gM he, EqT.cells, Ty.refold, hw, hb1, hb2, Int.natCast_add, Int.natCast_one, Int.cast_ofNat_Int, hst, List.map_append, bL, List.length_append]
     exact Weak.mk (by simp only [go_sem, Le.refl, Le.any, Le.slNil, Int.natCast_add, Int.cast_ofNat_Int, Int.natCast_one]) (fun _ _ h => h) rfl rfl
    ·
     have hno : e.ok = false := by (have h9 : e.r.right = false := by simpa using hb24); rw [EqT.ok, h9, Bool.and_false]
     have hst := rightsE_no he hno
     refine AWp_skip ?_
     try simp only [thenQ, blockQ, noGotoQ]
     refine y1 _ ?_
     try clear y1 Y1
     refine AWp_region ?_
     iterate 2 (refine aops_chunk 1 fun Q0 q0 => ?_; simp only [↓aops, ↓aop, ↓aWant, ↓aVal, go_sem, seval, hk, gM he, EqT.cells, Ty.refold, hw, hb1, hb2, Int.natCast_add, hst]; refine q0 _ ?_; clear q0 Q0; simp only [go_sem])
     simp only [↓aops, ↓aop, ↓aWant, ↓aVal, go_sem, seval, hk, gM he, EqT.cells, Ty.refold, hw, hb1, hb2, Int.natCast_add, hst]
     refine ⟨(s + 1), (by omega), by omega, ?_⟩
     simp only [maskL, setsL, putsO, putO, mB, List.set_cons_zero, List.set_cons_succ, seval, hk, gM he, EqT.cells, Ty.refold, hw, hb1, hb2, Int.natCast_add, Int.natCast_one, Int.cast_ofNat_Int, hst]
     exact Weak.mk (by simp only [go_sem, Le.refl, Le.any, Le.slNil, Int.natCast_add, Int.cast_ofNat_Int, Int.natCast_one]) (fun _ _ h => h) rfl rfl
   ·
    simp only [List.set_cons_zero, List.set_cons_succ]
    have hno : e.ok = false := by (have h9 : e.l.right = false := by simpa using hc17); rw [EqT.ok, h9]; rfl
    have hst := rightsE_no he hno
    iterate 6 (refine aops_chunk 1 fun Q0 q0 => ?_; simp only [↓aops, ↓aop, ↓aWant, ↓aVal, go_sem, seval, hk, gM he, EqT.cells, Ty.refold, hw, hb1, hb2, Int.natCast_add, hst]; refine q0 _ ?_; clear q0 Q0; simp only [go_sem])
    simp only [↓aops, ↓aop, ↓aWant, ↓aVal, go_sem, seval, hk, gM he, EqT.cells, Ty.refold, hw, hb1, hb2, Int.natCast_add, hst]
    refine y2 _ ?_
    try clear y2 Y2
    refine AWp_cond (b := false) (by first | exact rfl | exact congrArg (fun b => AV.v (.bool b)) hb24) (fun h => (by cases h)) (fun _ => ?_)
    refine AWp_skip ?_
    try simp only [thenQ, blockQ, noGotoQ]
    refine y1 _ ?_
    try clear y1 Y1
    refine AWp_region ?_
    iterate 2 (refine aops_chunk 1 fun Q0 q0 => ?_; simp only [↓aops, ↓aop, ↓aWant, ↓aVal, go_sem, seval, hk, gM he, EqT.cells, Ty.refold, hw, hb1, hb2, Int.natCast_add, hst]; refine q0 _ ?_; clear q0 Q0; simp only [go_sem])
    simp only [↓aops, ↓aop, ↓aWant, ↓aVal, go_sem, seval, hk, gM he, EqT.cells, Ty.refold, hw, hb1, hb2, Int.natCast_add, hst]
    refine ⟨(s + 1), (by omega), by omega, ?_⟩
    simp only [maskL, setsL, putsO, putO, mB, List.set_cons_zero, List.set_cons_succ, seval, hk, gM he, EqT.cells, Ty.refold, hw, hb1, hb2, Int.natCast_add, Int.natCast_one, Int.cast_ofNat_Int, hst]
    exact Weak.mk (by simp only [go_sem, Le.refl, Le.any, Le.slNil, Int.natCast_add, Int.cast_ofNat_Int, Int.natCast_one]) (fun _ _ h => h) rfl rfl
  ·
   have hk : s = es.length := by simp at hb8; omega
   refine AWp_exit ?_
   simp only [thenQ, blockQ, noGotoQ, bA, Nat.reduceEqDiff, ↓reduceIte]
   refine y0 _ ?_
   try clear y0 Y0
   refine AWp_seqK fun Y0 y0 => ?_
   refine AWp_region ?_
   refine aops_chunk 1 fun Q0 q0 => ?_
   simp only [↓aops, ↓aop, ↓aWant, ↓aVal, go_sem, seval]
   refine q0 _ ?_
   clear q0 Q0
   simp only [go_sem]
   simp only [↓aops, ↓aop, ↓aWant, ↓aVal, go_sem, seval]
   refine y0 _ ?_
   try clear y0 Y0
   refine AWp_ret ?_
   try simp only [thenQ, blockQ, noGotoQ, retQ, aRes, tupOf, bS, bA]
   rw [hk, List.take_length]; exact Le.oslL
end Go.Proofs.Ytjjjckjebkmnjaa
namespace Go.Proofs.Ytjjjckjebkmnjaa
open Go Go.RowKit
set_option maxRecDepth 100000
set_option maxHeartbeats 4000000
set_option linter.unusedSimpArgs false
set_option linter.unusedVariables false
attribute [local irreducible] aops dRun
open Classical in
noncomputable def sameC (c : List Int) (a b : Int) : Bool := decide ((0 ≤ a ∧ a < (c.length : Int)) ∧ (0 ≤ b ∧ b < (c.length : Int)) ∧ c[a.toNat]? = c[b.toNat]?)
theorem SIn_pure (c : List Int) (i : Int) : APure Try.prog 84 [.sl 1 (c.map intC), .v (.int .i64 i)] (.v (.bool (decide (0 ≤ i ∧ i < (c.length : Int))))) := by
  refine APure.mkL (.cons (dataInts _) (.cons (.v _) .nil)) (.v _) ?_
  refine ACalls_intro Try.func84 (by kernel_rfl) rfl (by rw [Try.ntmps84]; simp) (fun hm => ?_)
  simp only [Try.ntmps84, Try.results84, List.length_cons, List.length_nil, Nat.reduceAdd, Nat.reduceSub, List.replicate_succ, List.replicate_zero, List.cons_append, List.nil_append]
  refine AWp_seqK fun Y0 y0 => ?_
  refine AWp_region ?_
  simp only [↓aops, ↓aop, ↓aWant, ↓aVal, go_sem, seval]
  refine y0 _ ?_
  try clear y0 Y0
  refine AWp_seqK fun Y0 y0 => ?_
  refine AWp_region ?_
  refine aops_chunk 3 fun Q0 q0 => ?_
  simp only [↓aops, ↓aop, ↓aWant, ↓aVal, go_sem, seval]
  refine q0 _ ?_
  clear q0 Q0
  simp only [go_sem]
  refine aops_case 7 rfl (fun hc7 => ?_) (fun hc7 => ?_)
  ·
   simp only [List.set_cons_zero, List.set_cons_succ]
   refine aops_chunk 4 fun Q0 q0 => ?_
   simp only [↓aops, ↓aop, ↓aWant, ↓aVal, go_sem, seval]
   refine q0 _ ?_
   clear q0 Q0
   simp only [go_sem]
   simp only [↓aops, ↓aop, ↓aWant, ↓aVal, go_sem, seval]
   refine y0 _ ?_
   try clear y0 Y0
   refine AWp_ret ?_
   try simp only [thenQ, blockQ, noGotoQ, retQ, aRes, tupOf, bS, bA]
   refine Le.of_eq (congrArg (fun b => AV.v (.bool b)) ?_)
   rw [Bool.eq_iff_iff]
   simp only [decide_eq_true_eq, decide_eq_false_iff_not, Bool.false_eq_true, false_iff, ge_iff_le] at *
   try omega
  ·
   simp only [List.set_cons_zero, List.set_cons_succ]
   refine aops_chunk 4 fun Q0 q0 => ?_
   simp only [↓aops, ↓aop, ↓aWant, ↓aVal, go_sem, seval]
   refine q0 _ ?_
   clear q0 Q0
   simp only [go_sem]
   simp only [↓aops, ↓aop, ↓aWant, ↓aVal, go_sem, seval]
   refine y0 _ ?_
   try clear y0 Y0
   refine AWp_ret ?_
   try simp only [thenQ, blockQ, noGotoQ, retQ, aRes, tupOf, bS, bA]
   refine Le.of_eq (congrArg (fun b => AV.v (.bool b)) ?_)
   rw [Bool.eq_iff_iff]
   simp only [decide_eq_true_eq, decide_eq_false_iff_not, Bool.false_eq_true, false_iff, ge_iff_le] at *
   try omega
theorem SSame_pure (c : List Int) (a b : Int) : APure Try.prog 58 [.sl 1 (c.map intC), .v (.int .i64 a), .v (.int .i64 b)] (.v (.bool (sameC c a b))) := by
  refine APure.mkL (.cons (dataInts _) (.cons (.v _) (.cons (.v _) .nil))) (.v _) ?_
  refine ACalls_intro Try.func58 (by kernel_rfl) rfl (by rw [Try.ntmps58]; simp) (fun hm => ?_)
  simp only [Try.ntmps58, Try.results58, List.length_cons, List.length_nil, Nat.reduceAdd, Nat.reduceSub, List.replicate_succ, List.replicate_zero, List.cons_append, List.nil_append]
  refine AWp_seqK fun Y0 y0 => ?_
  refine AWp_region ?_
  simp only [↓aops, ↓aop, ↓aWant, ↓aVal, go_sem, seval, intC]
  refine y0 _ ?_
  try clear y0 Y0
  refine AWp_seqK fun Y0 y0 => ?_
  refine AWp_drawK 19 mixed (by kernel_rfl) fun J0 j0 => ?_
  simp only [go_sem]
  refine dRun_chunk 2 fun Q0 q0 => ?_
  simp only [↓dRun, ↓dOp, ↓aops, ↓aop, ↓aWant, ↓aVal, go_sem, seval, intC]
  refine q0 _ ?_
  clear q0 Q0
  simp only [go_sem]
  refine dRun_chunk 1 fun Q0 q0 => ?_
  simp only [↓dRun, ↓dOp, ↓aops, ↓aop, ↓aWant, ↓aVal, go_sem, seval, intC]
  refine ⟨_, SIn_pure c a, ?_⟩
  try simp only [bS, bA, thenQ, blockQ, noGotoQ]
  refine q0 _ ?_
  clear q0 Q0
  simp only [go_sem]
  refine dRun_chunk 1 fun Q0 q0 => ?_
  simp only [↓dRun, ↓dOp, ↓aops, ↓aop, ↓aWant, ↓aVal, go_sem, seval, intC]
  refine q0 _ ?_
  clear q0 Q0
  simp only [go_sem]
  refine dRun_case 10 rfl (fun hc10 => ?_) (fun hc10 => ?_)
  ·
   simp only [List.set_cons_zero, List.set_cons_succ]
   have ha : 0 ≤ a ∧ a < (c.length : Int) := by simpa using hc10
   obtain ⟨x, hx⟩ : ∃ x, c[a.toNat]? = some x := ⟨_, List.getElem?_eq_getElem (by omega)⟩
   refine dRun_chunk 2 fun Q0 q0 => ?_
   simp only [↓dRun, ↓dOp, ↓aops, ↓aop, ↓aWant, ↓aVal, go_sem, seval, intC, gM hx, ha.1, ha.2]
   refine q0 _ ?_
   clear q0 Q0
   simp only [go_sem]
   refine dRun_chunk 1 fun Q0 q0 => ?_
   simp only [↓dRun, ↓dOp, ↓aops, ↓aop, ↓aWant, ↓aVal, go_sem, seval, intC, gM hx, ha.1, ha.2]
   refine ⟨_, SIn_pure c b, ?_⟩
   try simp only [bS, bA, thenQ, blockQ, noGotoQ]
   refine q0 _ ?_
   clear q0 Q0
   simp only [go_sem]
   refine dRun_chunk 2 fun Q0 q0 => ?_
   simp only [↓dRun, ↓dOp, ↓aops, ↓aop, ↓aWant, ↓aVal, go_sem, seval, intC, gM hx, ha.1, ha.2]
   refine q0 _ ?_
   clear q0 Q0
   simp only [go_sem]
   refine dRun_case 15 rfl (fun hc15 => ?_) (fun hc15 => ?_)
   ·
    simp only [List.set_cons_zero, List.set_cons_succ]
    have hb : 0 ≤ b ∧ b < (c.length : Int) := by simpa using hc15
    obtain ⟨y, hy⟩ : ∃ y, c[b.toNat]? = some y := ⟨_, List.getElem?_eq_getElem (by omega)⟩
    iterate 2 (refine dRun_chunk 4 fun Q0 q0 => ?_; simp only [↓dRun, ↓dOp, ↓aops, ↓aop, ↓aWant, ↓aVal, go_sem, seval, intC, gM hx, ha.1, ha.2, gM hy, hb.1, hb.2]; refine q0 _ ?_; clear q0 Q0; simp only [go_sem])
    simp only [↓dRun, ↓dOp, ↓aops, ↓aop, ↓aWant, ↓aVal, go_sem, seval, intC, gM hx, ha.1, ha.2, gM hy, hb.1, hb.2]
    refine j0 _ ?_
    clear j0 J0
    simp only [go_sem]
    simp only [↓aops, ↓aop, ↓aWant, ↓aVal, go_sem, seval, intC, gM hx, ha.1, ha.2, gM hy, hb.1, hb.2]
    refine y0 _ ?_
    try clear y0 Y0
    refine AWp_ret ?_
    try simp only [thenQ, blockQ, noGotoQ, retQ, aRes, tupOf, bS, bA]
    refine Le.of_eq (congrArg (fun b => AV.v (.bool b)) ?_)
    rw [sameC, hx, hy, Bool.eq_iff_iff]; simp [ha, hb]
   ·
    simp only [List.set_cons_zero, List.set_cons_succ]
    have hb : ¬ (0 ≤ b ∧ b < (c.length : Int)) := by simpa using hc15
    iterate 2 (refine dRun_chunk 4 fun Q0 q0 => ?_; simp only [↓dRun, ↓dOp, ↓aops, ↓aop, ↓aWant, ↓aVal, go_sem, seval, intC, gM hx, ha.1, ha.2]; refine q0 _ ?_; clear q0 Q0; simp only [go_sem])
    simp only [↓dRun, ↓dOp, ↓aops, ↓aop, ↓aWant, ↓aVal, go_sem, seval, intC, gM hx, ha.1, ha.2]
    refine j0 _ ?_
    clear j0 J0
    simp only [go_sem]
    simp only [↓aops, ↓aop, ↓aWant, ↓aVal, go_sem, seval, intC, gM hx, ha.1, ha.2]
    refine y0 _ ?_
    try clear y0 Y0
    refine AWp_ret ?_
    try simp only [thenQ, blockQ, noGotoQ, retQ, aRes, tupOf, bS, bA]
    refine Le.of_eq (congrArg (fun b => AV.v (.bool b)) ?_)
    rw [sameC, decide_eq_false (fun h => hb h.2.1)]
  ·
   simp only [List.set_cons_zero, List.set_cons_succ]
   have ha : ¬ (0 ≤ a ∧ a < (c.length : Int)) := by simpa using hc10
   iterate 3 (refine dRun_chunk 4 fun Q0 q0 => ?_; simp only [↓dRun, ↓dOp, ↓aops, ↓aop, ↓aWant, ↓aVal, go_sem, seval, intC]; refine q0 _ ?_; clear q0 Q0; simp only [go_sem])
   simp only [↓dRun, ↓dOp, ↓aops, ↓aop, ↓aWant, ↓aVal, go_sem, seval, intC]
   refine j0 _ ?_
   clear j0 J0
   simp only [go_sem]
   simp only [↓aops, ↓aop, ↓aWant, ↓aVal, go_sem, seval, intC]
   refine y0 _ ?_
   try clear y0 Y0
   refine AWp_ret ?_
   try simp only [thenQ, blockQ, noGotoQ, retQ, aRes, tupOf, bS, bA]
   refine Le.of_eq (congrArg (fun b => AV.v (.bool b)) ?_)
   rw [sameC, decide_eq_false (fun h => ha h.1)]
theorem SNew_pure (n : Nat) (hn : n ≤ 1048576) : APure Try.prog 56 [.v (.int .i64 (n : Int))] (.sl 1 ((rangeC n).map intC)) := by
  refine APure.mkL (.cons (.v _) .nil) (dataInts _) ?_
  refine ACalls_intro Try.func56 (by kernel_rfl) rfl (by rw [Try.ntmps56]; simp) (fun hm => ?_)
  simp only [Try.ntmps56, Try.results56, List.length_cons, List.length_nil, Nat.reduceAdd, Nat.reduceSub, List.replicate_succ, List.replicate_zero, List.cons_append, List.nil_append]
  iterate 2 (refine AWp_seqK fun Y0 y0 => ?_; refine AWp_region ?_; simp only [↓aops, ↓aop, ↓aWant, ↓aVal, go_sem, seval]; refine y0 _ ?_; (try clear y0 Y0))
  refine AWp_seqK fun Y0 y0 => ?_
  refine AWp_seqK fun Y1 y1 => ?_
  refine AWp_region ?_
  simp only [↓aops, ↓aop, ↓aWant, ↓aVal, go_sem, seval]
  refine y1 _ ?_
  try clear y1 Y1
  refine AWp_block ?_
  refine AWp_weak (Weak.tokSlot 3 3 1 rfl) ?_
  simp only [List.set_cons_zero, List.set_cons_succ]
  refine AWp_loopM (σ := Nat) (mB 15 25) (fun s => s ≤ n) (fun s => [(3, .osl 0 1 (((rangeC n).take s).map intC)), (4, .v (.int .i64 (s : Int)))]) (fun s => [(0, .tok 3 1 s)]) (fun s => n - s) 0 (by omega) ?_ (fun s hs => ?_)
  ·
   simp only [maskL, setsL, putsO, putO, mB, List.set_cons_zero, List.set_cons_succ, seval, bL]
   exact Weak.mk (by simp only [go_sem, Le.refl, Le.any, Le.slNil, Int.natCast_add, Int.cast_ofNat_Int, Int.natCast_one]) (fun _ _ h => h) rfl rfl
  simp only [maskL, setsL, putsO, putO, mB, List.set_cons_zero, List.set_cons_succ, seval]
  refine AWp_seqK fun Y1 y1 => ?_
  refine AWp_seqK fun Y2 y2 => ?_
  refine AWp_region ?_
  refine aops_chunk 2 fun Q0 q0 => ?_
  simp only [↓aops, ↓aop, ↓aWant, ↓aVal, go_sem, seval]
  refine q0 _ ?_
  clear q0 Q0
  simp only [go_sem]
  simp only [↓aops, ↓aop, ↓aWant, ↓aVal, go_sem, seval]
  refine y2 _ ?_
  try clear y2 Y2
  refine AWp_cond rfl (fun hb7 => ?_) (fun hb7 => ?_)
  ·
   have hk : s < n := by simpa using hb7
   have hr := rangeC_at hk
   have hw : IntKind.i64.wrap ((s : Int) + 1) = (s : Int) + 1 := wrap_in (by omega) (by omega)
   have hln : (((rangeC n).take s).map intC).length = s := by simp [rangeC]; omega
   have hb1 : (s + 1) * 8 ≤ 140737488355328 := by omega
   have hb2 : s + 1 ≤ maxLen := by simp only [maxLen]; omega
   refine AWp_skip ?_
   try simp only [thenQ, blockQ, noGotoQ]
   refine y1 _ ?_
   try clear y1 Y1
   refine AWp_seqK fun Y1 y1 => ?_
   refine AWp_block ?_
   refine AWp_region ?_
   refine aops_chunk 2 fun Q0 q0 => ?_
   simp only [↓aops, ↓aop, ↓aWant, ↓aVal, go_sem, seval, hk, intC, Int.natCast_add, hw, hln, hb1, hb2, take_map_step intC hr]
   refine q0 _ ?_
   clear q0 Q0
   simp only [go_sem]
   refine aops_chunk 2 fun Q0 q0 => ?_
   simp only [↓aops, ↓aop, ↓aWant, ↓aVal, go_sem, seval, ↓bs1_1, ↓bs1_2, ↓bs1_3, ↓bs1_4, ↓bs1_5, ↓bs1_6, ↓bs1_7, ↓bs1_8, ↓bs1_9, ↓bs1_10, ↓bs1_11, ↓bs1_12, hk, intC, Int.natCast_add, hw, hln, hb1, hb2, take_map_step intC hr]
   refine q0 _ ?_
   clear q0 Q0
   simp only [go_sem]
   simp only [↓aops, ↓aop, ↓aWant, ↓aVal, go_sem, seval, hk, intC, Int.natCast_add, hw, hln, hb1, hb2, take_map_step intC hr]
   refine y1 _ ?_
   try clear y1 Y1
   refine AWp_region ?_
   refine aops_chunk 2 fun Q0 q0 => ?_
   simp only [↓aops, ↓aop, ↓aWant, ↓aVal, go_sem, seval, hk, intC, Int.natCast_add, hw, hln, hb1, hb2, take_map_step intC hr]
   refine q0 _ ?_
   clear q0 Q0
   simp only [go_sem]
   simp only [↓aops, ↓aop, ↓aWant, ↓aVal, go_sem, seval, hk, intC, Int.natCast_add, hw, hln, hb1, hb2, take_map_step intC hr]
   refine ⟨(s + 1), (by omega), by omega, ?_⟩
   simp only [maskL, setsL, putsO, putO, mB, List.set_cons_zero, List.set_cons_succ, seval, hk, intC, Int.natCast_add, Int.natCast_one, hw, hln, hb1, hb2, take_map_step intC hr]
   exact Weak.mk (by simp only [go_sem, Le.refl, Le.any, Le.slNil, Int.natCast_add, Int.cast_ofNat_Int, Int.natCast_one]) (fun _ _ h => h) rfl rfl
  ·
   have hk : s = n := by simp at hb7; omega
   refine AWp_exit ?_
   simp only [thenQ, blockQ, noGotoQ, bA, Nat.reduceEqDiff, ↓reduceIte]
   refine y0 _ ?_
   try clear y0 Y0
   refine AWp_seqK fun Y0 y0 => ?_
   refine AWp_region ?_
   simp only [↓aops, ↓aop, ↓aWant, ↓aVal, go_sem, seval]
   refine y0 _ ?_
   try clear y0 Y0
   refine AWp_ret ?_
   try simp only [thenQ, blockQ, noGotoQ, retQ, aRes, tupOf, bS, bA]
   rw [hk, List.take_of_length_le (by simp [rangeC])]; exact Le.oslL
theorem joinC_ex {c : List Int} {a b : Nat} (ha : a < c.length) (hb : b < c.length) : ∃ (z y : Int) (J : List Int), c[a]? = some z ∧ c[b]? = some y ∧ joinC c a b = J ∧ J.length = c.length ∧ ∀ (s : Nat) (x : Int), c[s]? = some x → J[s]? = some (if x = y then z else x) :=
  ⟨_, _, _, List.getElem?_eq_getElem ha, List.getElem?_eq_getElem hb, rfl, joinC_len _ _ _, fun _ _ hx => joinC_at hx (List.getElem?_eq_getElem hb) (List.getElem?_eq_getElem ha)⟩
theorem SJoin_pure (c : List Int) (a b : Nat) (hac : a < c.length) (hbc : b < c.length) (hlc : c.length ≤ 1048576) : APure Try.prog 57 [.sl 1 (c.map intC), .v (.int .i64 (a : Int)), .v (.int .i64 (b : Int))] (.sl 1 ((joinC c a b).map intC)) := by
  refine APure.mkL (.cons (dataInts _) (.cons (.v _) (.cons (.v _) .nil))) (dataInts _) ?_
  refine ACalls_intro Try.func57 (by kernel_rfl) rfl (by rw [Try.ntmps57]; simp) (fun hm => ?_)
  simp only [Try.ntmps57, Try.results57, List.length_cons, List.length_nil, Nat.reduceAdd, Nat.reduceSub, List.replicate_succ, List.replicate_zero, List.cons_append, List.nil_append]
  obtain ⟨z, y, J, hz, hy, hJ, hJl, hJx⟩ := joinC_ex hac hbc
  rw [hJ]
  clear hJ
  iterate 2 (refine AWp_seqK fun Y0 y0 => ?_; refine AWp_region ?_; simp only [↓aops, ↓aop, ↓aWant, ↓aVal, go_sem, seval]; refine y0 _ ?_; (try clear y0 Y0))
  refine AWp_seqK fun Y0 y0 => ?_
  refine AWp_seqK fun Y1 y1 => ?_
  refine AWp_region ?_
  simp only [↓aops, ↓aop, ↓aWant, ↓aVal, go_sem, seval]
  refine y1 _ ?_
  try clear y1 Y1
  refine AWp_block ?_
  refine AWp_weak (Weak.tokSlot 7 3 1 rfl) ?_
  simp only [List.set_cons_zero, List.set_cons_succ]
  refine AWp_loopM (σ := Nat) (mB 35 391) (fun s => s ≤ c.length) (fun s => [(7, .osl 0 1 ((J.take s).map intC)), (8, .v (.int .i64 (s : Int)))]) (fun s => [(0, .tok 3 1 s)]) (fun s => c.length - s) 0 (by omega) ?_ (fun s hs => ?_)
  ·
   simp only [maskL, setsL, putsO, putO, mB, List.set_cons_zero, List.set_cons_succ, seval, bL]
   exact Weak.mk (by simp only [go_sem, Le.refl, Le.any, Le.slNil, Int.natCast_add, Int.cast_ofNat_Int, Int.natCast_one]) (fun _ _ h => h) rfl rfl
  simp only [maskL, setsL, putsO, putO, mB, List.set_cons_zero, List.set_cons_succ, seval]
  refine AWp_seqK fun Y1 y1 => ?_
  refine AWp_seqK fun Y2 y2 => ?_
  refine AWp_region ?_
  refine aops_chunk 2 fun Q0 q0 => ?_
  simp only [↓aops, ↓aop, ↓aWant, ↓aVal, go_sem, seval]
  refine q0 _ ?_
  clear q0 Q0
  simp only [go_sem]
  simp only [↓aops, ↓aop, ↓aWant, ↓aVal, go_sem, seval]
  refine y2 _ ?_
  try clear y2 Y2
  refine AWp_cond rfl (fun hb13 => ?_) (fun hb13 => ?_)
  ·
   have hk : s < c.length := by simpa using hb13
   obtain ⟨x, hx⟩ : ∃ x, c[s]? = some x := ⟨_, List.getElem?_eq_getElem hk⟩
   have hr := hJx s x hx
   have hw : IntKind.i64.wrap ((s : Int) + 1) = (s : Int) + 1 := wrap_in (by omega) (by omega)
   have hln : (J.take s).length = s := by simp; omega
   have hb1 : (s + 1) * 8 ≤ 140737488355328 := by omega
   have hb2 : s + 1 ≤ maxLen := by simp only [maxLen]; omega
   refine AWp_skip ?_
   try simp only [thenQ, blockQ, noGotoQ]
   refine y1 _ ?_
   try clear y1 Y1
   refine AWp_seqK fun Y1 y1 => ?_
   refine AWp_block ?_
   refine AWp_seqK fun Y2 y2 => ?_
   refine AWp_region ?_
   iterate 2 (refine aops_chunk 2 fun Q0 q0 => ?_; simp only [↓aops, ↓aop, ↓aWant, ↓aVal, go_sem, seval, hk, intC, gM hx, gM hy, gM hz, Int.natCast_add, hw, hln, hb1, hb2, hac, hbc]; refine q0 _ ?_; clear q0 Q0; simp only [go_sem])
   simp only [↓aops, ↓aop, ↓aWant, ↓aVal, go_sem, seval, hk, intC, gM hx, gM hy, gM hz, Int.natCast_add, hw, hln, hb1, hb2, hac, hbc]
   refine y2 _ ?_
   try clear y2 Y2
   refine AWp_seqK fun Y2 y2 => ?_
   refine AWp_seqK fun Y3 y3 => ?_
   refine AWp_region ?_
   iterate 2 (refine aops_chunk 2 fun Q0 q0 => ?_; simp only [↓aops, ↓aop, ↓aWant, ↓aVal, go_sem, seval, hk, intC, gM hx, gM hy, gM hz, Int.natCast_add, hw, hln, hb1, hb2, hac, hbc]; refine q0 _ ?_; clear q0 Q0; simp only [go_sem])
   simp only [↓aops, ↓aop, ↓aWant, ↓aVal, go_sem, seval, hk, intC, gM hx, gM hy, gM hz, Int.natCast_add, hw, hln, hb1, hb2, hac, hbc]
   refine y3 _ ?_
   try clear y3 Y3
   refine AWp_cond rfl (fun hb25 => ?_) (fun hb25 => ?_)
   ·
    have he : x = y := by simpa using hb25
    rw [if_pos he] at hr
    refine AWp_region ?_
    iterate 2 (refine aops_chunk 2 fun Q0 q0 => ?_; simp only [↓aops, ↓aop, ↓aWant, ↓aVal, go_sem, seval, hk, intC, gM hx, gM hy, gM hz, Int.natCast_add, hw, hln, hb1, hb2, hac, hbc, take_map_step intC hr]; refine q0 _ ?_; clear q0 Q0; simp only [go_sem])
    simp only [↓aops, ↓aop, ↓aWant, ↓aVal, go_sem, seval, hk, intC, gM hx, gM hy, gM hz, Int.natCast_add, hw, hln, hb1, hb2, hac, hbc, take_map_step intC hr]
    refine y2 _ ?_
    try clear y2 Y2
    refine AWp_region ?_
    refine aops_chunk 2 fun Q0 q0 => ?_
    simp only [↓aops, ↓aop, ↓aWant, ↓aVal, go_sem, seval, hk, intC, gM hx, gM hy, gM hz, Int.natCast_add, hw, hln, hb1, hb2, hac, hbc, take_map_step intC hr]
    refine q0 _ ?_
    clear q0 Q0
    simp only [go_sem]
    refine aops_chunk 2 fun Q0 q0 => ?_
    simp only [↓aops, ↓aop, ↓aWant, ↓aVal, go_sem, seval, ↓bs1_1, ↓bs1_2, ↓bs1_3, ↓bs1_4, ↓bs1_5, ↓bs1_6, ↓bs1_7, ↓bs1_8, ↓bs1_9, ↓bs1_10, ↓bs1_11, ↓bs1_12, hk, intC, gM hx, gM hy, gM hz, Int.natCast_add, hw, hln, hb1, hb2, hac, hbc, take_map_step intC hr]
    refine q0 _ ?_
    clear q0 Q0
    simp only [go_sem]
    simp only [↓aops, ↓aop, ↓aWant, ↓aVal, go_sem, seval, hk, intC, gM hx, gM hy, gM hz, Int.natCast_add, hw, hln, hb1, hb2, hac, hbc, take_map_step intC hr]
    refine y1 _ ?_
    try clear y1 Y1
    refine AWp_region ?_
    refine aops_chunk 2 fun Q0 q0 => ?_
    simp only [↓aops, ↓aop, ↓aWant, ↓aVal, go_sem, seval, hk, intC, gM hx, gM hy, gM hz, Int.natCast_add, hw, hln, hb1, hb2, hac, hbc, take_map_step intC hr]
    refine q0 _ ?_
    clear q0 Q0
    simp only [go_sem]
    simp only [↓aops, ↓aop, ↓aWant, ↓aVal, go_sem, seval, hk, intC, gM hx, gM hy, gM hz, Int.natCast_add, hw, hln, hb1, hb2, hac, hbc, take_map_step intC hr]
    refine ⟨(s + 1), (by omega), by omega, ?_⟩
    simp only [maskL, setsL, putsO, putO, mB, List.set_cons_zero, List.set_cons_succ, seval, hk, intC, gM hx, gM hy, gM hz, Int.natCast_add, Int.natCast_one, hw, hln, hb1, hb2, hac, hbc, take_map_step intC hr]
    exact Weak.mk (by simp only [go_sem, Le.refl, Le.any, Le.slNil, Int.natCast_add, Int.cast_ofNat_Int, Int.natCast_one]) (fun _ _ h => h) rfl rfl
   ·
    have he : ¬ x = y := by simpa using hb25
    rw [if_neg he] at hr
    refine AWp_skip ?_
    try simp only [thenQ, blockQ, noGotoQ]
    refine y2 _ ?_
    try clear y2 Y2
    refine AWp_region ?_
    refine aops_chunk 2 fun Q0 q0 => ?_
    simp only [↓aops, ↓aop, ↓aWant, ↓aVal, go_sem, seval, hk, intC, gM hx, gM hy, gM hz, Int.natCast_add, hw, hln, hb1, hb2, hac, hbc, take_map_step intC hr]
    refine q0 _ ?_
    clear q0 Q0
    simp only [go_sem]
    refine aops_chunk 2 fun Q0 q0 => ?_
    simp only [↓aops, ↓aop, ↓aWant, ↓aVal, go_sem, seval, ↓bs1_1, ↓bs1_2, ↓bs1_3, ↓bs1_4, ↓bs1_5, ↓bs1_6, ↓bs1_7, ↓bs1_8, ↓bs1_9, ↓bs1_10, ↓bs1_11, ↓bs1_12, hk, intC, gM hx, gM hy, gM hz, Int.natCast_add, hw, hln, hb1, hb2, hac, hbc, take_map_step intC hr]
    refine q0 _ ?_
    clear q0 Q0
    simp only [go_sem]
    simp only [↓aops, ↓aop, ↓aWant, ↓aVal, go_sem, seval, hk, intC, gM hx, gM hy, gM hz, Int.natCast_add, hw, hln, hb1, hb2, hac, hbc, take_map_step intC hr]
    refine y1 _ ?_
    try clear y1 Y1
    refine AWp_region ?_
    refine aops_chunk 2 fun Q0 q0 => ?_
    simp only [↓aops, ↓aop, ↓aWant, ↓aVal, go_sem, seval, hk, intC, gM hx, gM hy, gM hz, Int.natCast_add, hw, hln, hb1, hb2, hac, hbc, take_map_step intC hr]
    refine q0 _ ?_
    clear q0 Q0
    simp only [go_sem]
    simp only [↓aops, ↓aop, ↓aWant, ↓aVal, go_sem, seval, hk, intC, gM hx, gM hy, gM hz, Int.natCast_add, hw, hln, hb1, hb2, hac, hbc, take_map_step intC hr]
    refine ⟨(s + 1), (by omega), by omega, ?_⟩
    simp only [maskL, setsL, putsO, putO, mB, List.set_cons_zero, List.set_cons_succ, seval, hk, intC, gM hx, gM hy, gM hz, Int.natCast_add, Int.natCast_one, hw, hln, hb1, hb2, hac, hbc, take_map_step intC hr]
    exact Weak.mk (by simp only [go_sem, Le.refl, Le.any, Le.slNil, Int.natCast_add, Int.cast_ofNat_Int, Int.natCast_one]) (fun _ _ h => h) rfl rfl
  ·
   have hk : s = c.length := by simp at hb13; omega
   refine AWp_exit ?_
   simp only [thenQ, blockQ, noGotoQ, bA, Nat.reduceEqDiff, ↓reduceIte]
   refine y0 _ ?_
   try clear y0 Y0
   refine AWp_seqK fun Y0 y0 => ?_
   refine AWp_region ?_
   simp only [↓aops, ↓aop, ↓aWant, ↓aVal, go_sem, seval]
   refine y0 _ ?_
   try clear y0 Y0
   refine AWp_ret ?_
   try simp only [thenQ, blockQ, noGotoQ, retQ, aRes, tupOf, bS, bA]
   rw [hk, List.take_of_length_le (by omega)]; exact Le.oslL
end Go.Proofs.Ytjjjckjebkmnjaa
namespace Go.Proofs.Ytjjjckjebkmnjaa
open Go Go.RowKit
set_option maxRecDepth 100000
set_option maxHeartbeats 4000000
set_option linter.unusedSimpArgs false
set_option linter.unusedVariables false
attribute [local irreducible] aops dRun
theorem eqF_len : ∀ (l : List (Ty × Ty)) , (eqF l).2.length = l.length := by
  suffices h : ∀ (n : Nat) (l : List (Ty × Ty)), l.length = n → (eqF l).2.length = l.length from fun l => h l.length l rfl
  intro n
  induction n with
  | zero =>
    intro l hl
    have : l = [] := List.length_eq_zero_iff.1 hl
    subst this; rfl
  | succ n ih =>
    intro l hl
    have hne : l ≠ [] := fun e => by rw [e] at hl; simp at hl
    obtain ⟨d, e, rfl⟩ : ∃ d e, l = d ++ [e] := ⟨l.dropLast, l.getLast hne, (List.dropLast_concat_getLast hne).symm⟩
    rw [eqF_snoc]
    simp only [eqStep, List.length_append, List.length_cons, List.length_nil]
    rw [ih d (by simp at hl; omega)]
theorem eqF_mlen : ∀ (l : List (Ty × Ty)) , (eqF l).1.length ≤ sumP l := by
  suffices h : ∀ (n : Nat) (l : List (Ty × Ty)), l.length = n → (eqF l).1.length ≤ sumP l from fun l => h l.length l rfl
  intro n
  induction n with
  | zero =>
    intro l hl
    have : l = [] := List.length_eq_zero_iff.1 hl
    subst this; simp [eqF]
  | succ n ih =>
    intro l hl
    have hne : l ≠ [] := fun e => by rw [e] at hl; simp at hl
    obtain ⟨d, e, rfl⟩ : ∃ d e, l = d ++ [e] := ⟨l.dropLast, l.getLast hne, (List.dropLast_concat_getLast hne).symm⟩
    rw [eqF_snoc, sumP_snoc]
    simp only [eqStep]
    have h1 := ih d (by simp at hl; omega)
    have h2 := e.1.radd_len (eqF d).1
    have h3 := e.2.radd_len (e.1.radd (eqF d).1).1
    omega
theorem eqF_take {l : List (Ty × Ty)} {s : Nat} {e : Ty × Ty} (h : l[s]? = some e) : eqF (l.take (s + 1)) = ((e.2.radd (e.1.radd (eqF (l.take s)).1).1).1, (eqF (l.take s)).2 ++ [((e.1.radd (eqF (l.take s)).1).2, (e.2.radd (e.1.radd (eqF (l.take s)).1).1).2)]) := by
  rw [List.take_add_one, h]
  exact eqF_snoc _ _
theorem nat2_at {l : List (Int × Int)} {s a b : Nat} (h : l[s]? = some ((a : Int), (b : Int))) : (nat2 l)[s]? = some (a, b) := by
  simp [nat2, List.getElem?_map, h]
theorem HeldC.next {E : List (Nat × Nat)} {c : List Int} {s a b : Nat} (h : HeldC (E.take s) c) (he : E[s]? = some (a, b)) (ha : a < c.length) (hb : b < c.length) : HeldC (E.take (s + 1)) (joinC c a b) := by
  rw [List.take_add_one, he]
  intro e hm
  rcases List.mem_append.1 hm with hm | hm
  · exact h.join a b e hm
  · simp at hm; subst hm; exact joinC_same ha hb
theorem sameC_in {c : List Int} {a b : Nat} (ha : a < c.length) (hb : b < c.length) : (sameC c (a : Int) (b : Int) = true ↔ c[a]? = c[b]?) := by
  classical
  unfold sameC
  rw [decide_eq_true_eq, Int.toNat_natCast, Int.toNat_natCast]
  constructor
  · exact fun h => h.2.2
  · exact fun h => ⟨⟨by omega, by omega⟩, ⟨by omega, by omega⟩, h⟩
structure CLoop (M : List RNode) (E : List (Nat × Nat)) (c0 : List Int) (p : List Int × Bool) : Prop where
  col : Col M E p.1
  held : HeldC E p.1
  eq : p.2 = false → p.1 = c0
  lt : p.2 = true → ndC p.1 < ndC c0
theorem CLoop.le {M : List RNode} {E : List (Nat × Nat)} {c0 : List Int} {p : List Int × Bool} (h : CLoop M E c0 p) : ndC p.1 ≤ ndC c0 := by
  cases hp : p.2 with
  | false => rw [h.eq hp]; exact Nat.le_refl _
  | true => exact Nat.le_of_lt (h.lt hp)
theorem CLoop.join {M : List RNode} {E : List (Nat × Nat)} {c0 : List Int} {p : List Int × Bool} (h : CLoop M E c0 p) {a b : Nat} (ha : a < M.length) (hb : b < M.length) (hc : Cl (shR M) E a b) (hne : ¬ p.1[a]? = p.1[b]?) : CLoop M E c0 (joinC p.1 a b, true) := by
  have hl := h.col.len
  refine ⟨h.col.join ha hb hc, h.held.join a b, fun e => (by cases e), fun _ => ?_⟩
  exact Nat.lt_of_lt_of_le (ndC_join (by omega) (by omega) hne) h.le
theorem CLoop.end' {M : List RNode} {E : List (Nat × Nat)} {c0 : List Int} {p : List Int × Bool} (h : CLoop M E c0 p) : 2 * ndC p.1 + p.2.toNat < 2 * ndC c0 + 1 := by
  cases hp : p.2 with
  | false => rw [h.eq hp]; simp
  | true => have := h.lt hp; simp only [Bool.toNat_true]; omega
theorem RNode.oneData (g : List RNode) (c : List Int) : Data (.agg [.sl 4 (g.map RNode.cells), .sl 1 (c.map intC)]) := .agg (.cons (RNode.dataSl g) (.cons (dataInts c) .nil))
theorem Close_c (es : List EqT) (M : List RNode) (P : List (Int × Int)) (hF : eqF (es.map EqT.p) = (M, P)) (hsum : sumP (es.map EqT.p) ≤ 160) (hMok : MOk M) (hP : ∀ p ∈ P, (0 ≤ p.1 ∧ p.1 < (M.length : Int)) ∧ 0 ≤ p.2 ∧ p.2 < (M.length : Int)) (h8 : ∀ x ∈ M, x.parts.length ≤ 8) :
    ACalls Try.prog 16 [.sl 8 (es.map EqT.cells)] [] 0 fun r os n => (∃ c, ColF M (nat2 P) c ∧ r = .agg [.sl 4 (M.map RNode.cells), .sl 1 (c.map intC)] ∧ os = []) ∧ n = 0 := by
  refine ACalls.clean (C := fun r os => ∃ c, ColF M (nat2 P) c ∧ r = .agg [.sl 4 (M.map RNode.cells), .sl 1 (c.map intC)] ∧ os = []) ?_
  refine ACalls_intro Try.func16 (by kernel_rfl) rfl (by rw [Try.ntmps16]; simp) (fun hm => ?_)
  simp only [Try.ntmps16, Try.results16, List.length_cons, List.length_nil, Nat.reduceAdd, Nat.reduceSub, List.replicate_succ, List.replicate_zero, List.cons_append, List.nil_append]
  have hm1 := sumP_len (es.map EqT.p)
  rw [List.length_map] at hm1
  have hMl := eqF_mlen (es.map EqT.p)
  rw [hF] at hMl
  have hPl := eqF_len (es.map EqT.p)
  rw [hF, List.length_map] at hPl
  dsimp only at hMl hPl
  iterate 3 (refine AWp_seqK fun Y0 y0 => ?_; refine AWp_region ?_; simp only [↓aops, ↓aop, ↓aWant, ↓aVal, go_sem, seval]; refine y0 _ ?_; (try clear y0 Y0))
  refine AWp_seqK fun Y0 y0 => ?_
  refine AWp_seqK fun Y1 y1 => ?_
  refine AWp_region ?_
  simp only [↓aops, ↓aop, ↓aWant, ↓aVal, go_sem, seval]
  refine y1 _ ?_
  try clear y1 Y1
  refine AWp_block ?_
  refine AWp_weak (Weak.tokSlot 4 90 2 rfl) ?_
  simp only [List.set_cons_zero, List.set_cons_succ]
  refine AWp_loopM (σ := Nat) (mB 179 61) (fun s => s ≤ es.length) (fun s => [(3, .sl 4 ((eqF ((es.map EqT.p).take s)).1.map RNode.cells)), (4, .osl 1 2 ((eqF ((es.map EqT.p).take s)).2.map pC)), (5, .v (.int .i64 (s : Int)))]) (fun s => [(1, .tok 90 2 s)]) (fun s => es.length - s) 0 (by omega) ?_ (fun s hs => ?_)
  ·
   simp only [maskL, setsL, putsO, putO, mB, List.set_cons_zero, List.set_cons_succ, seval, bL, eqF, List.foldl_nil]
   exact Weak.mk (by simp only [go_sem, Le.refl, Le.any, Le.slNil, Int.natCast_add, Int.cast_ofNat_Int, Int.natCast_one]) (fun _ _ h => h) rfl rfl
  simp only [maskL, setsL, putsO, putO, mB, List.set_cons_zero, List.set_cons_succ, seval]
  refine AWp_seqK fun Y1 y1 => ?_
  refine AWp_seqK fun Y2 y2 => ?_
  refine AWp_region ?_
  refine aops_chunk 2 fun Q0 q0 => ?_
  simp only [↓aops, ↓aop, ↓aWant, ↓aVal, go_sem, seval]
  refine q0 _ ?_
  clear q0 Q0
  simp only [go_sem]
  simp only [↓aops, ↓aop, ↓aWant, ↓aVal, go_sem, seval]
  refine y2 _ ?_
  try clear y2 Y2
  refine AWp_cond rfl (fun hb18 => ?_) (fun hb18 => ?_)
  ·
   have hk : s < es.length := by simpa using hb18
   obtain ⟨e, he⟩ : ∃ e, es[s]? = some e := ⟨_, List.getElem?_eq_getElem hk⟩
   have hep : (es.map EqT.p)[s]? = some e.p := by rw [List.getElem?_map, he]; rfl
   have hEs := eqF_take hep
   have hst := sumP_take (es.map EqT.p) (s + 1)
   rw [List.take_add_one, hep] at hst
   rw [show (some e.p).toList = [e.p] from rfl, sumP_snoc] at hst
   simp only [EqT.p] at hst hEs
   have hml := eqF_mlen ((es.map EqT.p).take s)
   have hrl := e.l.radd_len (eqF ((es.map EqT.p).take s)).1
   have hw : IntKind.i64.wrap ((s : Int) + 1) = (s : Int) + 1 := wrap_in (by omega) (by omega)
   have hln : (eqF ((es.map EqT.p).take s)).2.length = s := by rw [eqF_len]; simp; omega
   have hb1 : (s + 1) * 16 ≤ 140737488355328 := by omega
   have hb2 : s + 1 ≤ maxLen := by simp only [maxLen]; omega
   refine AWp_skip ?_
   try simp only [thenQ, blockQ, noGotoQ]
   refine y1 _ ?_
   try clear y1 Y1
   refine AWp_seqK fun Y1 y1 => ?_
   refine AWp_block ?_
   refine AWp_seqK fun Y2 y2 => ?_
   refine AWp_region ?_
   iterate 3 (refine aops_chunk 2 fun Q0 q0 => ?_; simp only [↓aops, ↓aop, ↓aWant, ↓aVal, go_sem, seval, hk, gM he, EqT.cells, Ty.refold, hw, hln, hb1, hb2, Int.natCast_add, intC]; refine q0 _ ?_; clear q0 Q0; simp only [go_sem])
   refine aops_chunk 1 fun Q0 q0 => ?_
   simp only [↓aops, ↓aop, ↓aWant, ↓aVal, go_sem, seval, hk, gM he, EqT.cells, Ty.refold, hw, hln, hb1, hb2, Int.natCast_add, intC]
   refine APure.call (RAdd_pure e.l (eqF ((es.map EqT.p).take s)).1 (by omega)) ?_
   try simp only [bS, bA, thenQ, blockQ, noGotoQ]
   iterate 2 (refine q0 _ ?_; clear q0 Q0; simp only [go_sem]; refine aops_chunk 2 fun Q0 q0 => ?_; simp only [↓aops, ↓aop, ↓aWant, ↓aVal, go_sem, seval, hk, gM he, EqT.cells, Ty.refold, hw, hln, hb1, hb2, Int.natCast_add, intC])
   refine q0 _ ?_
   clear q0 Q0
   simp only [go_sem]
   simp only [↓aops, ↓aop, ↓aWant, ↓aVal, go_sem, seval, hk, gM he, EqT.cells, Ty.refold, hw, hln, hb1, hb2, Int.natCast_add, intC]
   refine y2 _ ?_
   try clear y2 Y2
   refine AWp_seqK fun Y2 y2 => ?_
   refine AWp_region ?_
   iterate 3 (refine aops_chunk 2 fun Q0 q0 => ?_; simp only [↓aops, ↓aop, ↓aWant, ↓aVal, go_sem, seval, hk, gM he, EqT.cells, Ty.refold, hw, hln, hb1, hb2, Int.natCast_add, intC]; refine q0 _ ?_; clear q0 Q0; simp only [go_sem])
   refine aops_chunk 1 fun Q0 q0 => ?_
   simp only [↓aops, ↓aop, ↓aWant, ↓aVal, go_sem, seval, hk, gM he, EqT.cells, Ty.refold, hw, hln, hb1, hb2, Int.natCast_add, intC]
   refine APure.call (RAdd_pure e.r (e.l.radd (eqF ((es.map EqT.p).take s)).1).1 (by omega)) ?_
   try simp only [bS, bA, thenQ, blockQ, noGotoQ]
   iterate 2 (refine q0 _ ?_; clear q0 Q0; simp only [go_sem]; refine aops_chunk 2 fun Q0 q0 => ?_; simp only [↓aops, ↓aop, ↓aWant, ↓aVal, go_sem, seval, hk, gM he, EqT.cells, Ty.refold, hw, hln, hb1, hb2, Int.natCast_add, intC])
   refine q0 _ ?_
   clear q0 Q0
   simp only [go_sem]
   simp only [↓aops, ↓aop, ↓aWant, ↓aVal, go_sem, seval, hk, gM he, EqT.cells, Ty.refold, hw, hln, hb1, hb2, Int.natCast_add, intC]
   refine y2 _ ?_
   try clear y2 Y2
   refine AWp_seqK fun Y2 y2 => ?_
   refine AWp_region ?_
   simp only [↓aops, ↓aop, ↓aWant, ↓aVal, go_sem, seval, hk, gM he, EqT.cells, Ty.refold, hw, hln, hb1, hb2, Int.natCast_add, intC]
   refine y2 _ ?_
   try clear y2 Y2
   refine AWp_region ?_
   iterate 2 (refine aops_chunk 2 fun Q0 q0 => ?_; simp only [↓aops, ↓aop, ↓aWant, ↓aVal, go_sem, seval, hk, gM he, EqT.cells, Ty.refold, hw, hln, hb1, hb2, Int.natCast_add, intC]; refine q0 _ ?_; clear q0 Q0; simp only [go_sem])
   refine aops_chunk 2 fun Q0 q0 => ?_
   simp only [↓aops, ↓aop, ↓aWant, ↓aVal, go_sem, seval, ↓bs1_1, ↓bs1_2, ↓bs1_3, ↓bs1_4, ↓bs1_5, ↓bs1_6, ↓bs1_7, ↓bs1_8, ↓bs1_9, ↓bs1_10, ↓bs1_11, ↓bs1_12, hk, gM he, EqT.cells, Ty.refold, hw, hln, hb1, hb2, Int.natCast_add, intC]
   refine q0 _ ?_
   clear q0 Q0
   simp only [go_sem]
   simp only [↓aops, ↓aop, ↓aWant, ↓aVal, go_sem, seval, hk, gM he, EqT.cells, Ty.refold, hw, hln, hb1, hb2, Int.natCast_add, intC]
   refine y1 _ ?_
   try clear y1 Y1
   refine AWp_region ?_
   refine aops_chunk 2 fun Q0 q0 => ?_
   simp only [↓aops, ↓aop, ↓aWant, ↓aVal, go_sem, seval, hk, gM he, EqT.cells, Ty.refold, hw, hln, hb1, hb2, Int.natCast_add, intC]
   refine q0 _ ?_
   clear q0 Q0
   simp only [go_sem]
   simp only [↓aops, ↓aop, ↓aWant, ↓aVal, go_sem, seval, hk, gM he, EqT.cells, Ty.refold, hw, hln, hb1, hb2, Int.natCast_add, intC]
   refine ⟨(s + 1), (by omega), by omega, ?_⟩
   simp only [maskL, setsL, putsO, putO, mB, List.set_cons_zero, List.set_cons_succ, seval, Int.natCast_add, Int.natCast_one, Int.cast_ofNat_Int, hln]
   refine Weak.sub ?_ ⟨rfl, rfl, trivial⟩ (by first | omega | (simp only; omega)) (by first | omega | (simp only; omega)) ?_ ?_
   ·
    simp only [EqT.p] at hEs ⊢
    simp only [go_sem, Le.refl, Le.any, hEs, List.map_append, List.map_cons, List.map_nil, pC]
   · repeat' first | exact trivial | exact .any _ | exact .ptr (by omega) | exact .v _ _ | exact Und.oslP (by omega) | exact Und.data (EqT.dataSl _) | exact Und.data (RNode.dataSl _) | exact Und.data (dataInts _) | (refine ⟨?_, ?_⟩)
   · exact ⟨by omega, trivial, by omega, ⟨.v _ _, .v _ _, trivial⟩, trivial⟩
  ·
   have hk : s = es.length := by simp at hb18; omega
   subst hk
   rw [List.take_of_length_le (by simp), hF]
   dsimp only
   refine AWp_exit ?_
   simp only [thenQ, blockQ, noGotoQ, bA, Nat.reduceEqDiff, ↓reduceIte]
   refine y0 _ ?_
   try clear y0 Y0
   refine AWp_seqK fun Y0 y0 => ?_
   refine AWp_region ?_
   refine aops_chunk 2 fun Q0 q0 => ?_
   simp only [↓aops, ↓aop, ↓aWant, ↓aVal, go_sem, seval]
   refine q0 _ ?_
   clear q0 Q0
   simp only [go_sem]
   refine aops_chunk 1 fun Q0 q0 => ?_
   simp only [↓aops, ↓aop, ↓aWant, ↓aVal, go_sem, seval]
   refine APure.call (SNew_pure M.length (by omega)) ?_
   try simp only [bS, bA, thenQ, blockQ, noGotoQ]
   refine q0 _ ?_
   clear q0 Q0
   simp only [go_sem]
   simp only [↓aops, ↓aop, ↓aWant, ↓aVal, go_sem, seval]
   refine y0 _ ?_
   try clear y0 Y0
   refine AWp_seqK fun Y0 y0 => ?_
   refine AWp_seqK fun Y1 y1 => ?_
   refine AWp_region ?_
   simp only [↓aops, ↓aop, ↓aWant, ↓aVal, go_sem, seval]
   refine y1 _ ?_
   try clear y1 Y1
   refine AWp_block ?_
   refine AWp_loopM (σ := List Int × Nat) (mB 179 1564) (fun s => Col M (nat2 P) s.1 ∧ HeldC ((nat2 P).take s.2) s.1 ∧ s.2 ≤ P.length) (fun s => [(9, .sl 1 (s.1.map intC)), (10, .v (.int .i64 (s.2 : Int)))]) (fun s => []) (fun s => P.length - s.2) (rangeC M.length, 0) (⟨Col.range _ _, fun _ h => (by simp at h), by simp only; omega⟩) ?_ (fun s hs => ?_)
   ·
    simp only [maskL, setsL, putsO, putO, mB, List.set_cons_zero, List.set_cons_succ, seval]
    exact Weak.mk (by simp only [go_sem, Le.refl, Le.any, Le.slNil, Int.natCast_add, Int.cast_ofNat_Int, Int.natCast_one]) (fun _ _ h => h) rfl rfl
   simp only [maskL, setsL, putsO, putO, mB, List.set_cons_zero, List.set_cons_succ, seval]
   refine AWp_seqK fun Y1 y1 => ?_
   refine AWp_seqK fun Y2 y2 => ?_
   refine AWp_region ?_
   refine aops_chunk 2 fun Q0 q0 => ?_
   simp only [↓aops, ↓aop, ↓aWant, ↓aVal, go_sem, seval]
   refine q0 _ ?_
   clear q0 Q0
   simp only [go_sem]
   simp only [↓aops, ↓aop, ↓aWant, ↓aVal, go_sem, seval]
   refine y2 _ ?_
   try clear y2 Y2
   refine AWp_cond rfl (fun hb54 => ?_) (fun hb54 => ?_)
   ·
    have hk : s.2 < P.length := by simpa using hb54
    obtain ⟨p, hp⟩ : ∃ p, P[s.2]? = some p := ⟨_, List.getElem?_eq_getElem hk⟩
    have hpb := hP p (List.mem_of_getElem? hp)
    obtain ⟨a, b, rfl⟩ : ∃ a b : Nat, p = ((a : Int), (b : Int)) := ⟨p.1.toNat, p.2.toNat, by ext <;> simp only <;> omega⟩
    have hab : a < M.length ∧ b < M.length := by dsimp only at hpb; omega
    have hcl := hs.1.len
    have hw : IntKind.i64.wrap ((s.2 : Int) + 1) = (s.2 : Int) + 1 := wrap_in (by omega) (by omega)
    refine AWp_skip ?_
    try simp only [thenQ, blockQ, noGotoQ]
    refine y1 _ ?_
    try clear y1 Y1
    refine AWp_seqK fun Y1 y1 => ?_
    refine AWp_block ?_
    refine AWp_drawK 12 mixed (by kernel_rfl) fun J0 j0 => ?_
    iterate 5 (simp only [go_sem]; refine dRun_chunk 2 fun Q0 q0 => ?_; simp only [↓dRun, ↓dOp, ↓aops, ↓aop, ↓aWant, ↓aVal, go_sem, seval, hk, gM hp, pC, hw, Int.natCast_add, intC]; refine q0 _ ?_; clear q0 Q0)
    simp only [go_sem]
    refine dRun_chunk 1 fun Q0 q0 => ?_
    simp only [↓dRun, ↓dOp, ↓aops, ↓aop, ↓aWant, ↓aVal, go_sem, seval, hk, gM hp, pC, hw, Int.natCast_add, intC]
    refine q0 _ ?_
    clear q0 Q0
    simp only [go_sem]
    simp only [↓dRun, ↓dOp, ↓aops, ↓aop, ↓aWant, ↓aVal, go_sem, seval, hk, gM hp, pC, hw, Int.natCast_add, intC]
    refine ⟨_, SJoin_pure s.1 a b (by omega) (by omega) (by omega), ?_⟩
    try simp only [bS, bA, thenQ, blockQ, noGotoQ]
    refine j0 _ ?_
    clear j0 J0
    simp only [go_sem]
    simp only [↓aops, ↓aop, ↓aWant, ↓aVal, go_sem, seval, hk, gM hp, pC, hw, Int.natCast_add, intC]
    refine y1 _ ?_
    try clear y1 Y1
    refine AWp_region ?_
    refine aops_chunk 2 fun Q0 q0 => ?_
    simp only [↓aops, ↓aop, ↓aWant, ↓aVal, go_sem, seval, hk, gM hp, pC, hw, Int.natCast_add, intC]
    refine q0 _ ?_
    clear q0 Q0
    simp only [go_sem]
    simp only [↓aops, ↓aop, ↓aWant, ↓aVal, go_sem, seval, hk, gM hp, pC, hw, Int.natCast_add, intC]
    refine ⟨(joinC s.1 a b, s.2 + 1), ⟨hs.1.join hab.1 hab.2 (.base (List.mem_of_getElem? (nat2_at hp))), hs.2.1.next (nat2_at hp) (by omega) (by omega), by simp only; omega⟩, (by simp only; omega), ?_⟩
    simp only [maskL, setsL, putsO, putO, mB, List.set_cons_zero, List.set_cons_succ, seval, hk, gM hp, pC, hw, Int.natCast_add, Int.natCast_one, Int.cast_ofNat_Int, intC]
    exact Weak.mk (by simp only [go_sem, Le.refl, Le.any, Le.slNil, Int.natCast_add, Int.cast_ofNat_Int, Int.natCast_one]) (fun _ _ h => h) rfl rfl
   ·
    have hk : s.2 = P.length := by have h9 := hb54; simp at h9; have := hs.2.2; omega
    have hheld : HeldC (nat2 P) s.1 := by have h9 := hs.2.1; rw [hk, List.take_of_length_le (by simp [nat2])] at h9; exact h9
    refine AWp_exit ?_
    simp only [thenQ, blockQ, noGotoQ, bA, Nat.reduceEqDiff, ↓reduceIte]
    refine y0 _ ?_
    try clear y0 Y0
    refine AWp_seqK fun Y0 y0 => ?_
    refine AWp_seqK fun Y1 y1 => ?_
    refine AWp_region ?_
    simp only [↓aops, ↓aop, ↓aWant, ↓aVal, go_sem, seval]
    refine y1 _ ?_
    try clear y1 Y1
    refine AWp_block ?_
    refine AWp_loopM (σ := List Int × Bool) (mB 179 2572) (fun t => Col M (nat2 P) t.1 ∧ HeldC (nat2 P) t.1 ∧ (t.2 = false → PAll M t.1 M.length 0)) (fun t => [(9, .sl 1 (t.1.map intC)), (11, .v (.bool t.2))]) (fun t => []) (fun t => 2 * ndC t.1 + t.2.toNat) (s.1, true) (⟨hs.1, hheld, fun e => (by cases e)⟩) ?_ (fun t ht => ?_)
    ·
     simp only [maskL, setsL, putsO, putO, mB, List.set_cons_zero, List.set_cons_succ, seval]
     exact Weak.mk (by simp only [go_sem, Le.refl, Le.any, Le.slNil, Int.natCast_add, Int.cast_ofNat_Int, Int.natCast_one]) (fun _ _ h => h) rfl rfl
    simp only [maskL, setsL, putsO, putO, mB, List.set_cons_zero, List.set_cons_succ, seval]
    refine AWp_seqK fun Y1 y1 => ?_
    refine AWp_seqK fun Y2 y2 => ?_
    refine AWp_region ?_
    simp only [↓aops, ↓aop, ↓aWant, ↓aVal, go_sem, seval]
    refine y2 _ ?_
    try clear y2 Y2
    refine AWp_cond rfl (fun hb69 => ?_) (fun hb69 => ?_)
    ·
     have htt : t.2 = true := hb69
     refine AWp_skip ?_
     try simp only [thenQ, blockQ, noGotoQ]
     refine y1 _ ?_
     try clear y1 Y1
     refine AWp_block ?_
     iterate 2 (refine AWp_seqK fun Y1 y1 => ?_; refine AWp_region ?_; simp only [↓aops, ↓aop, ↓aWant, ↓aVal, go_sem, seval, Int.natCast_add, intC]; refine y1 _ ?_; (try clear y1 Y1))
     refine AWp_block ?_
     refine AWp_loopM (σ := Nat × List Int × Bool) (mB 179 6668) (fun u => u.1 ≤ M.length ∧ CLoop M (nat2 P) t.1 u.2 ∧ (u.2.2 = false → PAll M u.2.1 u.1 0)) (fun u => [(9, .sl 1 (u.2.1.map intC)), (11, .v (.bool u.2.2)), (12, .v (.int .i64 (u.1 : Int)))]) (fun u => []) (fun u => M.length - u.1) (0, t.1, false) (⟨Nat.zero_le _, ⟨ht.1, ht.2.1, fun _ => rfl, fun e => (by cases e)⟩, fun _ => PAll.zero _ _⟩) ?_ (fun u hu => ?_)
     ·
      simp only [maskL, setsL, putsO, putO, mB, List.set_cons_zero, List.set_cons_succ, seval]
      exact Weak.mk (by simp only [go_sem, Le.refl, Le.any, Le.slNil, Int.natCast_add, Int.cast_ofNat_Int, Int.natCast_one]) (fun _ _ h => h) rfl rfl
     simp only [maskL, setsL, putsO, putO, mB, List.set_cons_zero, List.set_cons_succ, seval]
     refine AWp_seqK fun Y1 y1 => ?_
     refine AWp_seqK fun Y2 y2 => ?_
     refine AWp_region ?_
     refine aops_chunk 2 fun Q0 q0 => ?_
     simp only [↓aops, ↓aop, ↓aWant, ↓aVal, go_sem, seval, Int.natCast_add, intC]
     refine q0 _ ?_
     clear q0 Q0
     simp only [go_sem]
     simp only [↓aops, ↓aop, ↓aWant, ↓aVal, go_sem, seval, Int.natCast_add, intC]
     refine y2 _ ?_
     try clear y2 Y2
     refine AWp_cond rfl (fun hb73 => ?_) (fun hb73 => ?_)
     ·
      have hki : u.1 < M.length := by simpa using hb73
      obtain ⟨x, hxm⟩ : ∃ x, M[u.1]? = some x := ⟨_, List.getElem?_eq_getElem hki⟩
      have hw1 : IntKind.i64.wrap ((u.1 : Int) + 1) = (u.1 : Int) + 1 := wrap_in (by omega) (by omega)
      refine AWp_skip ?_
      try simp only [thenQ, blockQ, noGotoQ]
      refine y1 _ ?_
      try clear y1 Y1
      refine AWp_seqK fun Y1 y1 => ?_
      refine AWp_block ?_
      refine AWp_seqK fun Y2 y2 => ?_
      refine AWp_region ?_
      simp only [↓aops, ↓aop, ↓aWant, ↓aVal, go_sem, seval, Int.natCast_add, intC, hki, gM hxm, hw1]
      refine y2 _ ?_
      try clear y2 Y2
      refine AWp_block ?_
      refine AWp_loopM (σ := Nat × List Int × Bool) (mB 179 14860) (fun v => v.1 ≤ u.1 ∧ CLoop M (nat2 P) t.1 v.2 ∧ (v.2.2 = false → PAll M v.2.1 u.1 v.1)) (fun v => [(9, .sl 1 (v.2.1.map intC)), (11, .v (.bool v.2.2)), (13, .v (.int .i64 (v.1 : Int)))]) (fun v => []) (fun v => u.1 - v.1) (0, u.2) (⟨Nat.zero_le _, hu.2.1, hu.2.2⟩) ?_ (fun v hv => ?_)
      ·
       simp only [maskL, setsL, putsO, putO, mB, List.set_cons_zero, List.set_cons_succ, seval]
       exact Weak.mk (by simp only [go_sem, Le.refl, Le.any, Le.slNil, Int.natCast_add, Int.cast_ofNat_Int, Int.natCast_one]) (fun _ _ h => h) rfl rfl
      simp only [maskL, setsL, putsO, putO, mB, List.set_cons_zero, List.set_cons_succ, seval]
      refine AWp_seqK fun Y2 y2 => ?_
      refine AWp_seqK fun Y3 y3 => ?_
      refine AWp_region ?_
      refine aops_chunk 2 fun Q0 q0 => ?_
      simp only [↓aops, ↓aop, ↓aWant, ↓aVal, go_sem, seval, Int.natCast_add, intC, hki, gM hxm, hw1]
      refine q0 _ ?_
      clear q0 Q0
      simp only [go_sem]
      simp only [↓aops, ↓aop, ↓aWant, ↓aVal, go_sem, seval, Int.natCast_add, intC, hki, gM hxm, hw1]
      refine y3 _ ?_
      try clear y3 Y3
      refine AWp_cond rfl (fun hb78 => ?_) (fun hb78 => ?_)
      ·
       have hkk : v.1 < u.1 := by simpa using hb78
       have hkM : v.1 < M.length := by omega
       obtain ⟨y, hym⟩ : ∃ y, M[v.1]? = some y := ⟨_, List.getElem?_eq_getElem hkM⟩
       have hcl := hv.2.1.col.len
       obtain ⟨ci, hci⟩ : ∃ z, v.2.1[u.1]? = some z := ⟨_, List.getElem?_eq_getElem (by omega)⟩
       obtain ⟨ck, hck⟩ : ∃ z, v.2.1[v.1]? = some z := ⟨_, List.getElem?_eq_getElem (by omega)⟩
       have hw2 : IntKind.i64.wrap ((v.1 : Int) + 1) = (v.1 : Int) + 1 := wrap_in (by omega) (by omega)
       refine AWp_skip ?_
       try simp only [thenQ, blockQ, noGotoQ]
       refine y2 _ ?_
       try clear y2 Y2
       refine AWp_seqK fun Y2 y2 => ?_
       refine AWp_block ?_
       refine AWp_seqK fun Y3 y3 => ?_
       refine AWp_seqK fun Y4 y4 => ?_
       refine AWp_drawK 48 mixed (by kernel_rfl) fun J0 j0 => ?_
       iterate 5 (simp only [go_sem]; refine dRun_chunk 2 fun Q0 q0 => ?_; simp only [↓dRun, ↓dOp, ↓aops, ↓aop, ↓aWant, ↓aVal, go_sem, seval, Int.natCast_add, intC, hki, gM hxm, hw1, hkk, hkM, gM hym, gM hci, gM hck, hcl, hw2, RNode.cells]; refine q0 _ ?_; clear q0 Q0)
       simp only [go_sem]
       refine dRun_case 90 rfl (fun hc90 => ?_) (fun hc90 => ?_)
       ·
        simp only [List.set_cons_zero, List.set_cons_succ]
        have hnc : ¬ ci = ck := by simpa using hc90
        have hsk : POk M v.2.1 u.1 v.1 := POk.skip hxm hym (by rw [hci, hck]; simp [hnc])
        iterate 18 (refine dRun_chunk 2 fun Q0 q0 => ?_; simp only [↓dRun, ↓dOp, ↓aops, ↓aop, ↓aWant, ↓aVal, go_sem, seval, Int.natCast_add, intC, hki, gM hxm, hw1, hkk, hkM, gM hym, gM hci, gM hck, hcl, hw2, RNode.cells]; refine q0 _ ?_; clear q0 Q0; simp only [go_sem])
        simp only [↓dRun, ↓dOp, ↓aops, ↓aop, ↓aWant, ↓aVal, go_sem, seval, Int.natCast_add, intC, hki, gM hxm, hw1, hkk, hkM, gM hym, gM hci, gM hck, hcl, hw2, RNode.cells]
        refine j0 _ ?_
        clear j0 J0
        simp only [bL, aops, thenQ, blockQ, noGotoQ]
        refine y4 _ ?_
        try clear y4 Y4
        refine AWp_cond (b := true) (by first | exact rfl | exact congrArg (fun b => AV.v (.bool b)) hb128) (fun _ => ?_) (fun h => (by cases h))
        refine AWp_exit ?_
        simp only [thenQ, blockQ, noGotoQ, bA, Nat.reduceEqDiff, ↓reduceIte]
        refine y2 _ ?_
        try clear y2 Y2
        refine AWp_region ?_
        refine aops_chunk 2 fun Q0 q0 => ?_
        simp only [↓aops, ↓aop, ↓aWant, ↓aVal, go_sem, seval, Int.natCast_add, intC, hki, gM hxm, hw1, hkk, hkM, gM hym, gM hci, gM hck, hcl, hw2, RNode.cells]
        refine q0 _ ?_
        clear q0 Q0
        simp only [go_sem]
        simp only [↓aops, ↓aop, ↓aWant, ↓aVal, go_sem, seval, Int.natCast_add, intC, hki, gM hxm, hw1, hkk, hkM, gM hym, gM hci, gM hck, hcl, hw2, RNode.cells]
        refine ⟨(v.1 + 1, v.2), ⟨by simp only; omega, hv.2.1, fun e => (hv.2.2 e).next hsk⟩, (by simp only; omega), ?_⟩
        simp only [maskL, setsL, putsO, putO, mB, List.set_cons_zero, List.set_cons_succ, seval, hkk, hkM, gM hym, gM hci, gM hck, hcl, hw2, RNode.cells, Int.natCast_add, Int.natCast_one, Int.cast_ofNat_Int, intC]
        exact Weak.mk (by simp only [go_sem, Le.refl, Le.any, Le.slNil, Int.natCast_add, Int.cast_ofNat_Int, Int.natCast_one]) (fun _ _ h => h) rfl rfl
       ·
        simp only [List.set_cons_zero, List.set_cons_succ]
        have hcc : ci = ck := by simpa using hc90
        iterate 4 (refine dRun_chunk 2 fun Q0 q0 => ?_; simp only [↓dRun, ↓dOp, ↓aops, ↓aop, ↓aWant, ↓aVal, go_sem, seval, Int.natCast_add, intC, hki, gM hxm, hw1, hkk, hkM, gM hym, gM hci, gM hck, hcl, hw2, RNode.cells]; refine q0 _ ?_; clear q0 Q0; simp only [go_sem])
        refine dRun_chunk 1 fun Q0 q0 => ?_
        simp only [↓dRun, ↓dOp, ↓aops, ↓aop, ↓aWant, ↓aVal, go_sem, seval, Int.natCast_add, intC, hki, gM hxm, hw1, hkk, hkM, gM hym, gM hci, gM hck, hcl, hw2, RNode.cells]
        refine q0 _ ?_
        clear q0 Q0
        simp only [go_sem]
        refine dRun_case 99 rfl (fun hc99 => ?_) (fun hc99 => ?_)
        ·
         simp only [List.set_cons_zero, List.set_cons_succ]
         have hk1 : x.t.k = 1 := by simpa using hc99
         have hsk : POk M v.2.1 u.1 v.1 := POk.skip hxm hym (by simp [hk1])
         iterate 14 (refine dRun_chunk 2 fun Q0 q0 => ?_; simp only [↓dRun, ↓dOp, ↓aops, ↓aop, ↓aWant, ↓aVal, go_sem, seval, Int.natCast_add, intC, hki, gM hxm, hw1, hkk, hkM, gM hym, gM hci, gM hck, hcl, hw2, RNode.cells]; refine q0 _ ?_; clear q0 Q0; simp only [go_sem])
         simp only [↓dRun, ↓dOp, ↓aops, ↓aop, ↓aWant, ↓aVal, go_sem, seval, Int.natCast_add, intC, hki, gM hxm, hw1, hkk, hkM, gM hym, gM hci, gM hck, hcl, hw2, RNode.cells]
         refine j0 _ ?_
         clear j0 J0
         simp only [bL, aops, thenQ, blockQ, noGotoQ]
         refine y4 _ ?_
         try clear y4 Y4
         refine AWp_cond (b := true) (by first | exact rfl | exact congrArg (fun b => AV.v (.bool b)) hb128) (fun _ => ?_) (fun h => (by cases h))
         refine AWp_exit ?_
         simp only [thenQ, blockQ, noGotoQ, bA, Nat.reduceEqDiff, ↓reduceIte]
         refine y2 _ ?_
         try clear y2 Y2
         refine AWp_region ?_
         refine aops_chunk 2 fun Q0 q0 => ?_
         simp only [↓aops, ↓aop, ↓aWant, ↓aVal, go_sem, seval, Int.natCast_add, intC, hki, gM hxm, hw1, hkk, hkM, gM hym, gM hci, gM hck, hcl, hw2, RNode.cells]
         refine q0 _ ?_
         clear q0 Q0
         simp only [go_sem]
         simp only [↓aops, ↓aop, ↓aWant, ↓aVal, go_sem, seval, Int.natCast_add, intC, hki, gM hxm, hw1, hkk, hkM, gM hym, gM hci, gM hck, hcl, hw2, RNode.cells]
         refine ⟨(v.1 + 1, v.2), ⟨by simp only; omega, hv.2.1, fun e => (hv.2.2 e).next hsk⟩, (by simp only; omega), ?_⟩
         simp only [maskL, setsL, putsO, putO, mB, List.set_cons_zero, List.set_cons_succ, seval, hkk, hkM, gM hym, gM hci, gM hck, hcl, hw2, RNode.cells, Int.natCast_add, Int.natCast_one, Int.cast_ofNat_Int, intC]
         exact Weak.mk (by simp only [go_sem, Le.refl, Le.any, Le.slNil, Int.natCast_add, Int.cast_ofNat_Int, Int.natCast_one]) (fun _ _ h => h) rfl rfl
        ·
         simp only [List.set_cons_zero, List.set_cons_succ]
         have hk1 : x.t.k ≠ 1 := by simpa using hc99
         iterate 7 (refine dRun_chunk 2 fun Q0 q0 => ?_; simp only [↓dRun, ↓dOp, ↓aops, ↓aop, ↓aWant, ↓aVal, go_sem, seval, Int.natCast_add, intC, hki, gM hxm, hw1, hkk, hkM, gM hym, gM hci, gM hck, hcl, hw2, RNode.cells]; refine q0 _ ?_; clear q0 Q0; simp only [go_sem])
         refine dRun_chunk 1 fun Q0 q0 => ?_
         simp only [↓dRun, ↓dOp, ↓aops, ↓aop, ↓aWant, ↓aVal, go_sem, seval, Int.natCast_add, intC, hki, gM hxm, hw1, hkk, hkM, gM hym, gM hci, gM hck, hcl, hw2, RNode.cells]
         refine q0 _ ?_
         clear q0 Q0
         simp only [go_sem]
         refine dRun_case 114 rfl (fun hc114 => ?_) (fun hc114 => ?_)
         ·
          simp only [List.set_cons_zero, List.set_cons_succ]
          have hkn : ¬ x.t.k = y.t.k := by simpa using hc114
          have hsk : POk M v.2.1 u.1 v.1 := POk.skip hxm hym (by simp [hkn])
          iterate 6 (refine dRun_chunk 2 fun Q0 q0 => ?_; simp only [↓dRun, ↓dOp, ↓aops, ↓aop, ↓aWant, ↓aVal, go_sem, seval, Int.natCast_add, intC, hki, gM hxm, hw1, hkk, hkM, gM hym, gM hci, gM hck, hcl, hw2, RNode.cells]; refine q0 _ ?_; clear q0 Q0; simp only [go_sem])
          simp only [↓dRun, ↓dOp, ↓aops, ↓aop, ↓aWant, ↓aVal, go_sem, seval, Int.natCast_add, intC, hki, gM hxm, hw1, hkk, hkM, gM hym, gM hci, gM hck, hcl, hw2, RNode.cells]
          refine j0 _ ?_
          clear j0 J0
          simp only [bL, aops, thenQ, blockQ, noGotoQ]
          refine y4 _ ?_
          try clear y4 Y4
          refine AWp_cond (b := true) (by first | exact rfl | exact congrArg (fun b => AV.v (.bool b)) hb128) (fun _ => ?_) (fun h => (by cases h))
          refine AWp_exit ?_
          simp only [thenQ, blockQ, noGotoQ, bA, Nat.reduceEqDiff, ↓reduceIte]
          refine y2 _ ?_
          try clear y2 Y2
          refine AWp_region ?_
          refine aops_chunk 2 fun Q0 q0 => ?_
          simp only [↓aops, ↓aop, ↓aWant, ↓aVal, go_sem, seval, Int.natCast_add, intC, hki, gM hxm, hw1, hkk, hkM, gM hym, gM hci, gM hck, hcl, hw2, RNode.cells]
          refine q0 _ ?_
          clear q0 Q0
          simp only [go_sem]
          simp only [↓aops, ↓aop, ↓aWant, ↓aVal, go_sem, seval, Int.natCast_add, intC, hki, gM hxm, hw1, hkk, hkM, gM hym, gM hci, gM hck, hcl, hw2, RNode.cells]
          refine ⟨(v.1 + 1, v.2), ⟨by simp only; omega, hv.2.1, fun e => (hv.2.2 e).next hsk⟩, (by simp only; omega), ?_⟩
          simp only [maskL, setsL, putsO, putO, mB, List.set_cons_zero, List.set_cons_succ, seval, hkk, hkM, gM hym, gM hci, gM hck, hcl, hw2, RNode.cells, Int.natCast_add, Int.natCast_one, Int.cast_ofNat_Int, intC]
          exact Weak.mk (by simp only [go_sem, Le.refl, Le.any, Le.slNil, Int.natCast_add, Int.cast_ofNat_Int, Int.natCast_one]) (fun _ _ h => h) rfl rfl
         ·
          simp only [List.set_cons_zero, List.set_cons_succ]
          have hke : x.t.k = y.t.k := by simpa using hc114
          iterate 6 (refine dRun_chunk 2 fun Q0 q0 => ?_; simp only [↓dRun, ↓dOp, ↓aops, ↓aop, ↓aWant, ↓aVal, go_sem, seval, Int.natCast_add, intC, hki, gM hxm, hw1, hkk, hkM, gM hym, gM hci, gM hck, hcl, hw2, RNode.cells]; refine q0 _ ?_; clear q0 Q0; simp only [go_sem])
          simp only [↓dRun, ↓dOp, ↓aops, ↓aop, ↓aWant, ↓aVal, go_sem, seval, Int.natCast_add, intC, hki, gM hxm, hw1, hkk, hkM, gM hym, gM hci, gM hck, hcl, hw2, RNode.cells]
          refine j0 _ ?_
          clear j0 J0
          simp only [bL, aops, thenQ, blockQ, noGotoQ]
          refine y4 _ ?_
          try clear y4 Y4
          refine AWp_cond rfl (fun hb128 => ?_) (fun hb128 => ?_)
          ·
           have hlt2 : ¬ x.parts.length = y.parts.length := by (have h9 := hb128; simp at h9; omega)
           have hsk : POk M v.2.1 u.1 v.1 := POk.skip hxm hym (by simp [hlt2])
           refine AWp_exit ?_
           simp only [thenQ, blockQ, noGotoQ, bA, Nat.reduceEqDiff, ↓reduceIte]
           refine y2 _ ?_
           try clear y2 Y2
           refine AWp_region ?_
           refine aops_chunk 2 fun Q0 q0 => ?_
           simp only [↓aops, ↓aop, ↓aWant, ↓aVal, go_sem, seval, Int.natCast_add, intC, hki, gM hxm, hw1, hkk, hkM, gM hym, gM hci, gM hck, hcl, hw2, RNode.cells]
           refine q0 _ ?_
           clear q0 Q0
           simp only [go_sem]
           simp only [↓aops, ↓aop, ↓aWant, ↓aVal, go_sem, seval, Int.natCast_add, intC, hki, gM hxm, hw1, hkk, hkM, gM hym, gM hci, gM hck, hcl, hw2, RNode.cells]
           refine ⟨(v.1 + 1, v.2), ⟨by simp only; omega, hv.2.1, fun e => (hv.2.2 e).next hsk⟩, (by simp only; omega), ?_⟩
           simp only [maskL, setsL, putsO, putO, mB, List.set_cons_zero, List.set_cons_succ, seval, hkk, hkM, gM hym, gM hci, gM hck, hcl, hw2, RNode.cells, Int.natCast_add, Int.natCast_one, Int.cast_ofNat_Int, intC]
           exact Weak.mk (by simp only [go_sem, Le.refl, Le.any, Le.slNil, Int.natCast_add, Int.cast_ofNat_Int, Int.natCast_one]) (fun _ _ h => h) rfl rfl
          ·
           have hln2 : x.parts.length = y.parts.length := by (have h9 := hb128; simp at h9; omega)
           have hclx := hv.2.1.col.sub u.1 v.1 hki hkM (by rw [hci, hck, hcc])
           have h8x := h8 x (List.mem_of_getElem? hxm)
           refine AWp_skip ?_
           try simp only [thenQ, blockQ, noGotoQ]
           refine y3 _ ?_
           try clear y3 Y3
           refine AWp_seqK fun Y3 y3 => ?_
           refine AWp_region ?_
           simp only [↓aops, ↓aop, ↓aWant, ↓aVal, go_sem, seval, Int.natCast_add, intC, hki, gM hxm, hw1, hkk, hkM, gM hym, gM hci, gM hck, hcl, hw2, RNode.cells]
           refine y3 _ ?_
           try clear y3 Y3
           refine AWp_block ?_
           refine AWp_loopM (σ := Nat × List Int × Bool) (mB 179 31244) (fun q => q.1 ≤ x.parts.length ∧ CLoop M (nat2 P) t.1 q.2 ∧ (q.2.2 = false → PAll M q.2.1 u.1 v.1 ∧ PUp M q.2.1 u.1 v.1 q.1)) (fun q => [(9, .sl 1 (q.2.1.map intC)), (11, .v (.bool q.2.2)), (14, .v (.int .i64 (q.1 : Int)))]) (fun q => []) (fun q => x.parts.length - q.1) (0, v.2) (⟨Nat.zero_le _, hv.2.1, fun e => ⟨hv.2.2 e, PUp.zero _ _ _ _⟩⟩) ?_ (fun q hq => ?_)
           ·
            simp only [maskL, setsL, putsO, putO, mB, List.set_cons_zero, List.set_cons_succ, seval]
            exact Weak.mk (by simp only [go_sem, Le.refl, Le.any, Le.slNil, Int.natCast_add, Int.cast_ofNat_Int, Int.natCast_one]) (fun _ _ h => h) rfl rfl
           simp only [maskL, setsL, putsO, putO, mB, List.set_cons_zero, List.set_cons_succ, seval]
           refine AWp_seqK fun Y3 y3 => ?_
           refine AWp_seqK fun Y4 y4 => ?_
           refine AWp_region ?_
           iterate 3 (refine aops_chunk 2 fun Q0 q0 => ?_; simp only [↓aops, ↓aop, ↓aWant, ↓aVal, go_sem, seval, Int.natCast_add, intC, hki, gM hxm, hw1, hkk, hkM, gM hym, gM hci, gM hck, hcl, hw2, RNode.cells]; refine q0 _ ?_; clear q0 Q0; simp only [go_sem])
           simp only [↓aops, ↓aop, ↓aWant, ↓aVal, go_sem, seval, Int.natCast_add, intC, hki, gM hxm, hw1, hkk, hkM, gM hym, gM hci, gM hck, hcl, hw2, RNode.cells]
           refine y4 _ ?_
           try clear y4 Y4
           refine AWp_cond rfl (fun hb136 => ?_) (fun hb136 => ?_)
           ·
            have hkj : q.1 < x.parts.length := by simpa using hb136
            have hkj2 : q.1 < y.parts.length := by omega
            obtain ⟨p, hpa⟩ : ∃ p, x.parts[q.1]? = some p := ⟨_, List.getElem?_eq_getElem hkj⟩
            obtain ⟨r, hpb⟩ : ∃ r, y.parts[q.1]? = some r := ⟨_, List.getElem?_eq_getElem hkj2⟩
            have hpm := hMok x (List.mem_of_getElem? hxm) p (List.mem_of_getElem? hpa)
            have hrm := hMok y (List.mem_of_getElem? hym) r (List.mem_of_getElem? hpb)
            obtain ⟨a, rfl⟩ : ∃ a : Nat, p = (a : Int) := ⟨p.toNat, by omega⟩
            obtain ⟨b, rfl⟩ : ∃ b : Nat, r = (b : Int) := ⟨r.toNat, by omega⟩
            have haM : a < M.length := by omega
            have hbM : b < M.length := by omega
            have hcab : Cl (shR M) (nat2 P) a b := Cl.part hclx (shR_of hxm) (by rw [shR_of hym, hke]) hk1 hln2 hpa hpb
            have hcq := hq.2.1.col.len
            have hsa := sameC_in (c := q.2.1) (a := a) (b := b) (by omega) (by omega)
            have hw3 : IntKind.i64.wrap ((q.1 : Int) + 1) = (q.1 : Int) + 1 := wrap_in (by omega) (by omega)
            refine AWp_skip ?_
            try simp only [thenQ, blockQ, noGotoQ]
            refine y3 _ ?_
            try clear y3 Y3
            refine AWp_seqK fun Y3 y3 => ?_
            refine AWp_block ?_
            refine AWp_seqK fun Y4 y4 => ?_
            refine AWp_drawK 19 mixed (by kernel_rfl) fun J0 j0 => ?_
            iterate 8 (simp only [go_sem]; refine dRun_chunk 2 fun Q0 q0 => ?_; simp only [↓dRun, ↓dOp, ↓aops, ↓aop, ↓aWant, ↓aVal, go_sem, seval, Int.natCast_add, intC, hki, gM hxm, hw1, hkk, hkM, gM hym, gM hci, gM hck, hcl, hw2, RNode.cells, hkj, hkj2, gM hpa, gM hpb, hw3]; refine q0 _ ?_; clear q0 Q0)
            simp only [go_sem]
            refine dRun_chunk 1 fun Q0 q0 => ?_
            simp only [↓dRun, ↓dOp, ↓aops, ↓aop, ↓aWant, ↓aVal, go_sem, seval, Int.natCast_add, intC, hki, gM hxm, hw1, hkk, hkM, gM hym, gM hci, gM hck, hcl, hw2, RNode.cells, hkj, hkj2, gM hpa, gM hpb, hw3]
            refine q0 _ ?_
            clear q0 Q0
            simp only [go_sem]
            refine dRun_chunk 1 fun Q0 q0 => ?_
            simp only [↓dRun, ↓dOp, ↓aops, ↓aop, ↓aWant, ↓aVal, go_sem, seval, Int.natCast_add, intC, hki, gM hxm, hw1, hkk, hkM, gM hym, gM hci, gM hck, hcl, hw2, RNode.cells, hkj, hkj2, gM hpa, gM hpb, hw3]
            refine ⟨_, SSame_pure q.2.1 (a : Int) (b : Int), ?_⟩
            try simp only [bS, bA, thenQ, blockQ, noGotoQ]
            refine q0 _ ?_
            clear q0 Q0
            simp only [go_sem]
            simp only [↓dRun, ↓dOp, ↓aops, ↓aop, ↓aWant, ↓aVal, go_sem, seval, Int.natCast_add, intC, hki, gM hxm, hw1, hkk, hkM, gM hym, gM hci, gM hck, hcl, hw2, RNode.cells, hkj, hkj2, gM hpa, gM hpb, hw3]
            refine j0 _ ?_
            clear j0 J0
            simp only [bL, aops, thenQ, blockQ, noGotoQ]
            refine y4 _ ?_
            try clear y4 Y4
            refine AWp_cond rfl (fun hb157 => ?_) (fun hb157 => ?_)
            ·
             have hne : ¬ q.2.1[a]? = q.2.1[b]? := by (have h9 : sameC q.2.1 (a : Int) (b : Int) = false := by simpa using hb157); exact fun e => by rw [hsa.2 e] at h9; cases h9
             refine AWp_seqK fun Y4 y4 => ?_
             refine AWp_drawK 18 mixed (by kernel_rfl) fun J0 j0 => ?_
             iterate 8 (simp only [go_sem]; refine dRun_chunk 2 fun Q0 q0 => ?_; simp only [↓dRun, ↓dOp, ↓aops, ↓aop, ↓aWant, ↓aVal, go_sem, seval, Int.natCast_add, intC, hki, gM hxm, hw1, hkk, hkM, gM hym, gM hci, gM hck, hcl, hw2, RNode.cells, hkj, hkj2, gM hpa, gM hpb, hw3]; refine q0 _ ?_; clear q0 Q0)
             simp only [go_sem]
             refine dRun_chunk 1 fun Q0 q0 => ?_
             simp only [↓dRun, ↓dOp, ↓aops, ↓aop, ↓aWant, ↓aVal, go_sem, seval, Int.natCast_add, intC, hki, gM hxm, hw1, hkk, hkM, gM hym, gM hci, gM hck, hcl, hw2, RNode.cells, hkj, hkj2, gM hpa, gM hpb, hw3]
             refine q0 _ ?_
             clear q0 Q0
             simp only [go_sem]
             simp only [↓dRun, ↓dOp, ↓aops, ↓aop, ↓aWant, ↓aVal, go_sem, seval, Int.natCast_add, intC, hki, gM hxm, hw1, hkk, hkM, gM hym, gM hci, gM hck, hcl, hw2, RNode.cells, hkj, hkj2, gM hpa, gM hpb, hw3]
             refine ⟨_, SJoin_pure q.2.1 a b (by omega) (by omega) (by omega), ?_⟩
             try simp only [bS, bA, thenQ, blockQ, noGotoQ]
             refine j0 _ ?_
             clear j0 J0
             simp only [go_sem]
             simp only [↓aops, ↓aop, ↓aWant, ↓aVal, go_sem, seval, Int.natCast_add, intC, hki, gM hxm, hw1, hkk, hkM, gM hym, gM hci, gM hck, hcl, hw2, RNode.cells, hkj, hkj2, gM hpa, gM hpb, hw3]
             refine y4 _ ?_
             try clear y4 Y4
             refine AWp_region ?_
             simp only [↓aops, ↓aop, ↓aWant, ↓aVal, go_sem, seval, Int.natCast_add, intC, hki, gM hxm, hw1, hkk, hkM, gM hym, gM hci, gM hck, hcl, hw2, RNode.cells, hkj, hkj2, gM hpa, gM hpb, hw3]
             refine y3 _ ?_
             try clear y3 Y3
             refine AWp_region ?_
             refine aops_chunk 2 fun Q0 q0 => ?_
             simp only [↓aops, ↓aop, ↓aWant, ↓aVal, go_sem, seval, Int.natCast_add, intC, hki, gM hxm, hw1, hkk, hkM, gM hym, gM hci, gM hck, hcl, hw2, RNode.cells, hkj, hkj2, gM hpa, gM hpb, hw3]
             refine q0 _ ?_
             clear q0 Q0
             simp only [go_sem]
             simp only [↓aops, ↓aop, ↓aWant, ↓aVal, go_sem, seval, Int.natCast_add, intC, hki, gM hxm, hw1, hkk, hkM, gM hym, gM hci, gM hck, hcl, hw2, RNode.cells, hkj, hkj2, gM hpa, gM hpb, hw3]
             refine ⟨(q.1 + 1, joinC q.2.1 a b, true), ⟨by simp only; omega, hq.2.1.join haM hbM hcab hne, fun e => (by cases e)⟩, (by simp only; omega), ?_⟩
             simp only [maskL, setsL, putsO, putO, mB, List.set_cons_zero, List.set_cons_succ, seval, hkj, hkj2, gM hpa, gM hpb, hw3, Int.natCast_add, Int.natCast_one, Int.cast_ofNat_Int, intC]
             exact Weak.mk (by simp only [go_sem, Le.refl, Le.any, Le.slNil, Int.natCast_add, Int.cast_ofNat_Int, Int.natCast_one]) (fun _ _ h => h) rfl rfl
            ·
             have hsm : q.2.1[a]? = q.2.1[b]? := by (have h9 : sameC q.2.1 (a : Int) (b : Int) = true := by simpa using hb157); exact hsa.1 h9
             refine AWp_skip ?_
             try simp only [thenQ, blockQ, noGotoQ]
             refine y3 _ ?_
             try clear y3 Y3
             refine AWp_region ?_
             refine aops_chunk 2 fun Q0 q0 => ?_
             simp only [↓aops, ↓aop, ↓aWant, ↓aVal, go_sem, seval, Int.natCast_add, intC, hki, gM hxm, hw1, hkk, hkM, gM hym, gM hci, gM hck, hcl, hw2, RNode.cells, hkj, hkj2, gM hpa, gM hpb, hw3]
             refine q0 _ ?_
             clear q0 Q0
             simp only [go_sem]
             simp only [↓aops, ↓aop, ↓aWant, ↓aVal, go_sem, seval, Int.natCast_add, intC, hki, gM hxm, hw1, hkk, hkM, gM hym, gM hci, gM hck, hcl, hw2, RNode.cells, hkj, hkj2, gM hpa, gM hpb, hw3]
             refine ⟨(q.1 + 1, q.2), ⟨by simp only; omega, hq.2.1, fun e => ⟨(hq.2.2 e).1, (hq.2.2 e).2.next hxm hym hpa hpb (by simpa using hsm)⟩⟩, (by simp only; omega), ?_⟩
             simp only [maskL, setsL, putsO, putO, mB, List.set_cons_zero, List.set_cons_succ, seval, hkj, hkj2, gM hpa, gM hpb, hw3, Int.natCast_add, Int.natCast_one, Int.cast_ofNat_Int, intC]
             exact Weak.mk (by simp only [go_sem, Le.refl, Le.any, Le.slNil, Int.natCast_add, Int.cast_ofNat_Int, Int.natCast_one]) (fun _ _ h => h) rfl rfl
           ·
            have hkq : q.1 = x.parts.length := by have h9 := hb136; simp at h9; have := hq.1; omega
            refine AWp_exit ?_
            simp only [thenQ, blockQ, noGotoQ, bA, Nat.reduceEqDiff, ↓reduceIte]
            refine y2 _ ?_
            try clear y2 Y2
            refine AWp_region ?_
            refine aops_chunk 2 fun Q0 q0 => ?_
            simp only [↓aops, ↓aop, ↓aWant, ↓aVal, go_sem, seval, Int.natCast_add, intC, hki, gM hxm, hw1, hkk, hkM, gM hym, gM hci, gM hck, hcl, hw2, RNode.cells]
            refine q0 _ ?_
            clear q0 Q0
            simp only [go_sem]
            simp only [↓aops, ↓aop, ↓aWant, ↓aVal, go_sem, seval, Int.natCast_add, intC, hki, gM hxm, hw1, hkk, hkM, gM hym, gM hci, gM hck, hcl, hw2, RNode.cells]
            refine ⟨(v.1 + 1, q.2), ⟨by simp only; omega, hq.2.1, fun e => (hq.2.2 e).1.next (POk.all hxm (hkq ▸ (hq.2.2 e).2))⟩, (by simp only; omega), ?_⟩
            simp only [maskL, setsL, putsO, putO, mB, List.set_cons_zero, List.set_cons_succ, seval, hkk, hkM, gM hym, gM hci, gM hck, hcl, hw2, RNode.cells, Int.natCast_add, Int.natCast_one, Int.cast_ofNat_Int, intC]
            exact Weak.mk (by simp only [go_sem, Le.refl, Le.any, Le.slNil, Int.natCast_add, Int.cast_ofNat_Int, Int.natCast_one]) (fun _ _ h => h) rfl rfl
      ·
       have hkv : v.1 = u.1 := by have h9 := hb78; simp at h9; have := hv.1; omega
       refine AWp_exit ?_
       simp only [thenQ, blockQ, noGotoQ, bA, Nat.reduceEqDiff, ↓reduceIte]
       refine y1 _ ?_
       try clear y1 Y1
       refine AWp_region ?_
       refine aops_chunk 2 fun Q0 q0 => ?_
       simp only [↓aops, ↓aop, ↓aWant, ↓aVal, go_sem, seval, Int.natCast_add, intC, hki, gM hxm, hw1]
       refine q0 _ ?_
       clear q0 Q0
       simp only [go_sem]
       simp only [↓aops, ↓aop, ↓aWant, ↓aVal, go_sem, seval, Int.natCast_add, intC, hki, gM hxm, hw1]
       refine ⟨(u.1 + 1, v.2), ⟨by simp only; omega, hv.2.1, fun e => (hkv ▸ hv.2.2 e).row⟩, (by simp only; omega), ?_⟩
       simp only [maskL, setsL, putsO, putO, mB, List.set_cons_zero, List.set_cons_succ, seval, hki, gM hxm, hw1, Int.natCast_add, Int.natCast_one, Int.cast_ofNat_Int, intC]
       exact Weak.mk (by simp only [go_sem, Le.refl, Le.any, Le.slNil, Int.natCast_add, Int.cast_ofNat_Int, Int.natCast_one]) (fun _ _ h => h) rfl rfl
     ·
      have hku : u.1 = M.length := by have h9 := hb73; simp at h9; have := hu.1; omega
      refine AWp_exit ?_
      simp only [thenQ, blockQ, noGotoQ, bA, Nat.reduceEqDiff, ↓reduceIte]
      refine ⟨u.2, ⟨hu.2.1.col, hu.2.1.held, fun e => hku ▸ hu.2.2 e⟩, (by have h9 := hu.2.1.end'; have h8 : t.2.toNat = 1 := (by rw [htt]; rfl); omega), ?_⟩
      exact Weak.mk (by simp only [go_sem, Le.refl, Le.any]) (fun _ _ h => h) rfl rfl
    ·
     have htt : t.2 = false := hb69
     refine AWp_exit ?_
     simp only [thenQ, blockQ, noGotoQ, bA, Nat.reduceEqDiff, ↓reduceIte]
     refine y0 _ ?_
     try clear y0 Y0
     refine AWp_seqK fun Y0 y0 => ?_
     refine AWp_region ?_
     refine aops_chunk 2 fun Q0 q0 => ?_
     simp only [↓aops, ↓aop, ↓aWant, ↓aVal, go_sem, seval]
     refine q0 _ ?_
     clear q0 Q0
     simp only [go_sem]
     simp only [↓aops, ↓aop, ↓aWant, ↓aVal, go_sem, seval]
     refine y0 _ ?_
     try clear y0 Y0
     refine AWp_ret ?_
     try simp only [thenQ, blockQ, noGotoQ, retQ, aRes, tupOf, bS, bA, aLoad, getO, pack, bL, Nat.reduceAdd, Nat.reduceLeDiff, Nat.reduceEqDiff, ↓reduceIte, ti44, tyX, List.length_map]
     refine ⟨.agg [.sl 4 (M.map RNode.cells), .sl 1 (t.1.map intC)], [], ⟨t.1, ⟨ht.1, ht.2.1, (ht.2.2 htt).1⟩, rfl, rfl⟩, Und.data (RNode.oneData _ _), trivial, Le.refl _, ⟨2, rfl, rfl⟩, by omega⟩
end Go.Proofs.Ytjjjckjebkmnjaa
namespace Go.Proofs.Ytjjjckjebkmnjaa
open Go Go.RowKit
set_option maxRecDepth 100000
set_option maxHeartbeats 4000000
set_option linter.unusedSimpArgs false
set_option linter.unusedVariables false
attribute [local irreducible] aops dRun
theorem sumP_mem : ∀ {l : List (Ty × Ty)} {e : Ty × Ty}, e ∈ l → e.1.cnt + e.2.cnt ≤ sumP l
  | x :: l, e, h => by
    simp only [sumP]
    rcases List.mem_cons.1 h with rfl | h
    · omega
    · have := sumP_mem h; omega
theorem Close_at (es : List EqT) (hsum : sumP (es.map EqT.p) ≤ 160) (hr : ∀ e ∈ (es.map EqT.p), (e.1.right && e.2.right) = true) {os : Os} {nx : Nat} {Q : AV → Os → Nat → Prop}
    (hq : ∀ c, ColF (eqF (es.map EqT.p)).1 (nat2 (eqF (es.map EqT.p)).2) c → (clB (eqF (es.map EqT.p)).1 c = true ↔ Clashes (es.map EqT.p)) → Q (.agg [.sl 4 ((eqF (es.map EqT.p)).1.map RNode.cells), .sl 1 (c.map intC)]) os nx) : ACalls Try.prog 16 [.sl 8 (es.map EqT.cells)] os nx Q := by
  obtain ⟨⟨G, hG⟩, hP⟩ := eqF_ok (es.map EqT.p) fun e he => by
    have h1 := hr e he
    have h2 := sumP_mem he
    simp only [Bool.and_eq_true] at h1
    exact ⟨h1.1, h1.2, by omega, by omega⟩
  have h := Close_c es _ _ rfl hsum hG.mok hP fun x hx => hG.parts8 hx
  refine ACalls.atE (σ := List Int) (C := fun c => ColF (eqF (es.map EqT.p)).1 (nat2 (eqF (es.map EqT.p)).2) c) (R := fun c => .agg [.sl 4 ((eqF (es.map EqT.p)).1.map RNode.cells), .sl 1 (c.map intC)]) (R' := fun c => .agg [.sl 4 ((eqF (es.map EqT.p)).1.map RNode.cells), .sl 1 (c.map intC)]) (obs := []) (obs' := []) (obs1 := fun _ => []) (obs1' := fun _ => []) [] h rfl (fun _ => rfl) (by simp) (by simp) ⟨.data (EqT.dataSl es), trivial⟩ (fun c => .data (RNode.oneData _ _)) trivial trivial (fun _ => trivial) (fun c hc => hq c hc (hc.clash (fun e he => ?_) hG.mok))
  simp only [nat2, List.mem_map] at he
  obtain ⟨p, hp, rfl⟩ := he
  have := hP p hp
  simp only
  omega
theorem Clash_pure (M : List RNode) (c : List Int) (hcl : c.length = M.length) (hMl : M.length ≤ 1048576) : APure Try.prog 18 [.agg [.sl 4 (M.map RNode.cells), .sl 1 (c.map intC)]] (.v (.bool (clB M c))) := by
  refine APure.mkL (.cons (RNode.oneData M c) .nil) (.v _) ?_
  refine ACalls_intro Try.func18 (by kernel_rfl) rfl (by rw [Try.ntmps18]; simp) (fun hm => ?_)
  simp only [Try.ntmps18, Try.results18, List.length_cons, List.length_nil, Nat.reduceAdd, Nat.reduceSub, List.replicate_succ, List.replicate_zero, List.cons_append, List.nil_append]
  refine AWp_seqK fun Y0 y0 => ?_
  refine AWp_region ?_
  refine aops_chunk 1 fun Q0 q0 => ?_
  simp only [↓aops, ↓aop, ↓aWant, ↓aVal, go_sem, seval]
  refine q0 _ ?_
  clear q0 Q0
  simp only [go_sem]
  simp only [↓aops, ↓aop, ↓aWant, ↓aVal, go_sem, seval]
  refine y0 _ ?_
  try clear y0 Y0
  refine AWp_seqK fun Y0 y0 => ?_
  refine AWp_seqK fun Y1 y1 => ?_
  refine AWp_region ?_
  simp only [↓aops, ↓aop, ↓aWant, ↓aVal, go_sem, seval]
  refine y1 _ ?_
  try clear y1 Y1
  refine AWp_block ?_
  refine AWp_loopM (σ := Nat) (mB 70 10) (fun s => s ≤ M.length ∧ NoCl M c s 0) (fun s => [(3, .v (.int .i64 (s : Int)))]) (fun s => []) (fun s => M.length - s) 0 (⟨Nat.zero_le _, NoCl.zero _ _⟩) ?_ (fun s hs => ?_)
  ·
   simp only [maskL, setsL, putsO, putO, mB, List.set_cons_zero, List.set_cons_succ, seval]
   exact Weak.mk (by simp only [go_sem, Le.refl, Le.any, Le.slNil, Int.natCast_add, Int.cast_ofNat_Int, Int.natCast_one]) (fun _ _ h => h) rfl rfl
  simp only [maskL, setsL, putsO, putO, mB, List.set_cons_zero, List.set_cons_succ, seval]
  refine AWp_seqK fun Y1 y1 => ?_
  refine AWp_seqK fun Y2 y2 => ?_
  refine AWp_region ?_
  iterate 4 (refine aops_chunk 1 fun Q0 q0 => ?_; simp only [↓aops, ↓aop, ↓aWant, ↓aVal, go_sem, seval]; refine q0 _ ?_; clear q0 Q0; simp only [go_sem])
  simp only [↓aops, ↓aop, ↓aWant, ↓aVal, go_sem, seval]
  refine y2 _ ?_
  try clear y2 Y2
  refine AWp_cond rfl (fun hb11 => ?_) (fun hb11 => ?_)
  ·
   have hki : s < M.length := by simpa using hb11
   obtain ⟨x, hxm⟩ : ∃ x, M[s]? = some x := ⟨_, List.getElem?_eq_getElem hki⟩
   obtain ⟨ci, hci⟩ : ∃ z, c[s]? = some z := ⟨_, List.getElem?_eq_getElem (by omega)⟩
   have hw1 : IntKind.i64.wrap ((s : Int) + 1) = (s : Int) + 1 := wrap_in (by omega) (by omega)
   refine AWp_skip ?_
   try simp only [thenQ, blockQ, noGotoQ]
   refine y1 _ ?_
   try clear y1 Y1
   refine AWp_seqK fun Y1 y1 => ?_
   refine AWp_block ?_
   refine AWp_seqK fun Y2 y2 => ?_
   refine AWp_region ?_
   simp only [↓aops, ↓aop, ↓aWant, ↓aVal, go_sem, seval, hki, hcl, gM hxm, gM hci, hw1, RNode.cells, Int.natCast_add, intC]
   refine y2 _ ?_
   try clear y2 Y2
   refine AWp_block ?_
   refine AWp_loopM (σ := Nat) (mB 70 26) (fun v => v ≤ s ∧ NoCl M c s v) (fun v => [(4, .v (.int .i64 (v : Int)))]) (fun v => []) (fun v => s - v) 0 (⟨Nat.zero_le _, hs.2⟩) ?_ (fun v hv => ?_)
   ·
    simp only [maskL, setsL, putsO, putO, mB, List.set_cons_zero, List.set_cons_succ, seval]
    exact Weak.mk (by simp only [go_sem, Le.refl, Le.any, Le.slNil, Int.natCast_add, Int.cast_ofNat_Int, Int.natCast_one]) (fun _ _ h => h) rfl rfl
   simp only [maskL, setsL, putsO, putO, mB, List.set_cons_zero, List.set_cons_succ, seval]
   refine AWp_seqK fun Y2 y2 => ?_
   refine AWp_seqK fun Y3 y3 => ?_
   refine AWp_region ?_
   iterate 2 (refine aops_chunk 1 fun Q0 q0 => ?_; simp only [↓aops, ↓aop, ↓aWant, ↓aVal, go_sem, seval, hki, hcl, gM hxm, gM hci, hw1, RNode.cells, Int.natCast_add, intC]; refine q0 _ ?_; clear q0 Q0; simp only [go_sem])
   simp only [↓aops, ↓aop, ↓aWant, ↓aVal, go_sem, seval, hki, hcl, gM hxm, gM hci, hw1, RNode.cells, Int.natCast_add, intC]
   refine y3 _ ?_
   try clear y3 Y3
   refine AWp_cond rfl (fun hb16 => ?_) (fun hb16 => ?_)
   ·
    have hkk : v < s := by simpa using hb16
    have hkM : v < M.length := by omega
    obtain ⟨y, hym⟩ : ∃ y, M[v]? = some y := ⟨_, List.getElem?_eq_getElem hkM⟩
    obtain ⟨ck, hck⟩ : ∃ z, c[v]? = some z := ⟨_, List.getElem?_eq_getElem (by omega)⟩
    have hw2 : IntKind.i64.wrap ((v : Int) + 1) = (v : Int) + 1 := wrap_in (by omega) (by omega)
    refine AWp_skip ?_
    try simp only [thenQ, blockQ, noGotoQ]
    refine y2 _ ?_
    try clear y2 Y2
    refine AWp_seqK fun Y2 y2 => ?_
    refine AWp_block ?_
    refine AWp_joinZ (mB 70 122) ([(5, .eptr x.cells), (6, .eptr y.cells)]) [(0, .cells 44 [.sl 4 (M.map RNode.cells), .sl 1 (c.map intC)])] 1 (True) ?_ (fun hC => ?_)
    ·
     refine HAny_start 14 rfl mixed ?_
     dsimp only
     refine HAny_takeK 0 rfl (by kernel_rfl) (by kernel_rfl) (by kernel_rfl) (fun _ _ h => h) fun Q0 q0 => ?_
     simp only [↓aops, ↓aop, ↓aWant, ↓aVal, go_sem, seval, aHead, isPE, isSE, hki, hcl, gM hxm, gM hci, hw1, RNode.cells, Int.natCast_add, intC, hkk, hkM, gM hym, gM hck, hw2]
     refine q0 _ ?_
     clear q0 Q0
     refine HAny_takeK 1 rfl (by kernel_rfl) (by kernel_rfl) (by kernel_rfl) (fun _ _ h => h) fun Q0 q0 => ?_
     simp only [↓aops, ↓aop, ↓aWant, ↓aVal, go_sem, seval, aHead, isPE, isSE, hki, hcl, gM hxm, gM hci, hw1, RNode.cells, Int.natCast_add, intC, hkk, hkM, gM hym, gM hck, hw2]
     refine q0 _ ?_
     clear q0 Q0
     refine HAny_takeK 2 rfl (by kernel_rfl) (by kernel_rfl) (by kernel_rfl) (fun _ _ h => h) fun Q0 q0 => ?_
     simp only [↓aops, ↓aop, ↓aWant, ↓aVal, go_sem, seval, aHead, isPE, isSE, hki, hcl, gM hxm, gM hci, hw1, RNode.cells, Int.natCast_add, intC, hkk, hkM, gM hym, gM hck, hw2]
     refine q0 _ ?_
     clear q0 Q0
     refine HAny_takeK 3 rfl (by kernel_rfl) (by kernel_rfl) (by kernel_rfl) (fun _ _ h => h) fun Q0 q0 => ?_
     simp only [↓aops, ↓aop, ↓aWant, ↓aVal, go_sem, seval, aHead, isPE, isSE, hki, hcl, gM hxm, gM hci, hw1, RNode.cells, Int.natCast_add, intC, hkk, hkM, gM hym, gM hck, hw2]
     refine q0 _ ?_
     clear q0 Q0
     refine HAny_takeK 4 rfl (by kernel_rfl) (by kernel_rfl) (by kernel_rfl) (fun _ _ h => h) fun Q0 q0 => ?_
     simp only [↓aops, ↓aop, ↓aWant, ↓aVal, go_sem, seval, aHead, isPE, isSE, hki, hcl, gM hxm, gM hci, hw1, RNode.cells, Int.natCast_add, intC, hkk, hkM, gM hym, gM hck, hw2]
     refine q0 _ ?_
     clear q0 Q0
     refine HAny_takeK 5 rfl (by kernel_rfl) (by kernel_rfl) (by kernel_rfl) (fun _ _ h => h) fun Q0 q0 => ?_
     simp only [↓aops, ↓aop, ↓aWant, ↓aVal, go_sem, seval, aHead, isPE, isSE, hki, hcl, gM hxm, gM hci, hw1, RNode.cells, Int.natCast_add, intC, hkk, hkM, gM hym, gM hck, hw2]
     refine q0 _ ?_
     clear q0 Q0
     refine HAny_takeK 6 rfl (by kernel_rfl) (by kernel_rfl) (by kernel_rfl) (fun _ _ h => h) fun Q0 q0 => ?_
     simp only [↓aops, ↓aop, ↓aWant, ↓aVal, go_sem, seval, aHead, isPE, isSE, hki, hcl, gM hxm, gM hci, hw1, RNode.cells, Int.natCast_add, intC, hkk, hkM, gM hym, gM hck, hw2]
     refine q0 _ ?_
     clear q0 Q0
     refine HAny_takeK 7 rfl (by kernel_rfl) (by kernel_rfl) (by kernel_rfl) (fun _ _ h => h) fun Q0 q0 => ?_
     simp only [↓aops, ↓aop, ↓aWant, ↓aVal, go_sem, seval, aHead, isPE, isSE, hki, hcl, gM hxm, gM hci, hw1, RNode.cells, Int.natCast_add, intC, hkk, hkM, gM hym, gM hck, hw2]
     refine q0 _ ?_
     clear q0 Q0
     refine HAny_takeK 8 rfl (by kernel_rfl) (by kernel_rfl) (by kernel_rfl) (fun _ _ h => h) fun Q0 q0 => ?_
     simp only [↓aops, ↓aop, ↓aWant, ↓aVal, go_sem, seval, aHead, isPE, isSE, hki, hcl, gM hxm, gM hci, hw1, RNode.cells, Int.natCast_add, intC, hkk, hkM, gM hym, gM hck, hw2]
     refine q0 _ ?_
     clear q0 Q0
     refine HAny_takeK 9 rfl (by kernel_rfl) (by kernel_rfl) (by kernel_rfl) (fun _ _ h => h) fun Q0 q0 => ?_
     simp only [↓aops, ↓aop, ↓aWant, ↓aVal, go_sem, seval, aHead, isPE, isSE, hki, hcl, gM hxm, gM hci, hw1, RNode.cells, Int.natCast_add, intC, hkk, hkM, gM hym, gM hck, hw2]
     refine q0 _ ?_
     clear q0 Q0
     refine HAny_rest ?_
     refine JAny_all2 (i := 10) (j := 11) (by kernel_rfl) ?_ ?_
     ·
      refine jAt_alloc rfl rfl rfl rfl (by simp) (by decide) fun Q0 q0 => ?_
      simp only [↓aops, ↓aop, ↓aWant, ↓aVal, go_sem, seval, hki, hcl, gM hxm, gM hci, hw1, RNode.cells, Int.natCast_add, intC, hkk, hkM, gM hym, gM hck, hw2]
      refine q0 _ ?_
      clear q0 Q0
      refine JAny_all1 (i := 11) (by kernel_rfl) ?_
      ·
       refine jAt_alloc rfl rfl rfl rfl (by simp) (by decide) fun Q0 q0 => ?_
       simp only [↓aops, ↓aop, ↓aWant, ↓aVal, go_sem, seval, hki, hcl, gM hxm, gM hci, hw1, RNode.cells, Int.natCast_add, intC, hkk, hkM, gM hym, gM hck, hw2]
       refine q0 _ ?_
       clear q0 Q0
       refine JAny_all1 (i := 12) (by kernel_rfl) ?_
       ·
        refine jAt_store rfl rfl rfl rfl (by decide) rfl fun Q0 q0 => ?_
        simp only [↓aops, ↓aop, ↓aWant, ↓aVal, go_sem, seval, hki, hcl, gM hxm, gM hci, hw1, RNode.cells, Int.natCast_add, intC, hkk, hkM, gM hym, gM hck, hw2]
        refine q0 _ ?_
        clear q0 Q0
        refine JAny_all1 (i := 13) (by kernel_rfl) ?_
        ·
         refine jAt_store rfl rfl rfl rfl (by decide) rfl fun Q0 q0 => ?_
         simp only [↓aops, ↓aop, ↓aWant, ↓aVal, go_sem, seval, hki, hcl, gM hxm, gM hci, hw1, RNode.cells, Int.natCast_add, intC, hkk, hkM, gM hym, gM hck, hw2]
         refine q0 _ ?_
         clear q0 Q0
         refine JAny_done (by kernel_rfl) ?_
         simp only [thenQ, blockQ, noGotoQ]
         try simp only [maskL, setsL, putsO, putO, mB, List.set_cons_zero, List.set_cons_succ, seval]
         first | refine ⟨trivial, ?_⟩ | skip
         refine Weak.freeze ?_ ⟨rfl, trivial⟩ (by first | omega | (simp only; omega)) (by first | omega | (simp only; omega)) ?_ ⟨by omega, ⟨Und.data (RNode.dataSl _), Und.data (dataInts _), trivial⟩, trivial⟩
         · repeat' first | trivial | exact .inr ⟨_, _, _, rfl, rfl, rfl, rfl⟩ | exact .inl (.refl _) | exact .inl (.any _) | (refine ⟨?_, ?_⟩)
         · repeat' first | exact trivial | exact .any _ | exact .ptr (by omega) | exact .v _ _ | exact Und.data (RNode.dataSl _) | exact Und.data (dataInts _) | exact Und.data (.eptr (RNode.data _)) | (refine ⟨?_, ?_⟩)
     ·
      refine jAt_alloc rfl rfl rfl rfl (by simp) (by decide) fun Q0 q0 => ?_
      simp only [↓aops, ↓aop, ↓aWant, ↓aVal, go_sem, seval, hki, hcl, gM hxm, gM hci, hw1, RNode.cells, Int.natCast_add, intC, hkk, hkM, gM hym, gM hck, hw2]
      refine q0 _ ?_
      clear q0 Q0
      refine JAny_all1 (i := 10) (by kernel_rfl) ?_
      ·
       refine jAt_alloc rfl rfl rfl rfl (by simp) (by decide) fun Q0 q0 => ?_
       simp only [↓aops, ↓aop, ↓aWant, ↓aVal, go_sem, seval, hki, hcl, gM hxm, gM hci, hw1, RNode.cells, Int.natCast_add, intC, hkk, hkM, gM hym, gM hck, hw2]
       refine q0 _ ?_
       clear q0 Q0
       refine JAny_all1 (i := 12) (by kernel_rfl) ?_
       ·
        refine jAt_store rfl rfl rfl rfl (by decide) rfl fun Q0 q0 => ?_
        simp only [↓aops, ↓aop, ↓aWant, ↓aVal, go_sem, seval, hki, hcl, gM hxm, gM hci, hw1, RNode.cells, Int.natCast_add, intC, hkk, hkM, gM hym, gM hck, hw2]
        refine q0 _ ?_
        clear q0 Q0
        refine JAny_all1 (i := 13) (by kernel_rfl) ?_
        ·
         refine jAt_store rfl rfl rfl rfl (by decide) rfl fun Q0 q0 => ?_
         simp only [↓aops, ↓aop, ↓aWant, ↓aVal, go_sem, seval, hki, hcl, gM hxm, gM hci, hw1, RNode.cells, Int.natCast_add, intC, hkk, hkM, gM hym, gM hck, hw2]
         refine q0 _ ?_
         clear q0 Q0
         refine JAny_done (by kernel_rfl) ?_
         simp only [thenQ, blockQ, noGotoQ]
         try simp only [maskL, setsL, putsO, putO, mB, List.set_cons_zero, List.set_cons_succ, seval]
         first | refine ⟨trivial, ?_⟩ | skip
         refine Weak.freeze ?_ ⟨rfl, trivial⟩ (by first | omega | (simp only; omega)) (by first | omega | (simp only; omega)) ?_ ⟨by omega, ⟨Und.data (RNode.dataSl _), Und.data (dataInts _), trivial⟩, trivial⟩
         · repeat' first | trivial | exact .inr ⟨_, _, _, rfl, rfl, rfl, rfl⟩ | exact .inl (.refl _) | exact .inl (.any _) | (refine ⟨?_, ?_⟩)
         · repeat' first | exact trivial | exact .any _ | exact .ptr (by omega) | exact .v _ _ | exact Und.data (RNode.dataSl _) | exact Und.data (dataInts _) | exact Und.data (.eptr (RNode.data _)) | (refine ⟨?_, ?_⟩)
    simp only [maskL, setsL, putsO, putO, mB, List.set_cons_zero, List.set_cons_succ, seval]
    refine AWp_seqK fun Y3 y3 => ?_
    refine AWp_drawK 41 mixed (by kernel_rfl) fun J0 j0 => ?_
    iterate 12 (simp only [go_sem]; refine dRun_chunk 1 fun Q0 q0 => ?_; simp only [↓dRun, ↓dOp, ↓aops, ↓aop, ↓aWant, ↓aVal, go_sem, seval, hki, hcl, gM hxm, gM hci, hw1, RNode.cells, Int.natCast_add, intC, hkk, hkM, gM hym, gM hck, hw2]; refine q0 _ ?_; clear q0 Q0)
    simp only [go_sem]
    refine dRun_case 40 rfl (fun hc40 => ?_) (fun hc40 => ?_)
    ·
     simp only [List.set_cons_zero, List.set_cons_succ]
     have hcc : ci = ck := by simpa using hc40
     iterate 6 (refine dRun_chunk 1 fun Q0 q0 => ?_; simp only [↓dRun, ↓dOp, ↓aops, ↓aop, ↓aWant, ↓aVal, go_sem, seval, hki, hcl, gM hxm, gM hci, hw1, RNode.cells, Int.natCast_add, intC, hkk, hkM, gM hym, gM hck, hw2]; refine q0 _ ?_; clear q0 Q0; simp only [go_sem])
     refine dRun_case 46 rfl (fun hc46 => ?_) (fun hc46 => ?_)
     ·
      simp only [List.set_cons_zero, List.set_cons_succ]
      have hk1 : x.t.k ≠ 1 := by simpa using hc46
      iterate 6 (refine dRun_chunk 1 fun Q0 q0 => ?_; simp only [↓dRun, ↓dOp, ↓aops, ↓aop, ↓aWant, ↓aVal, go_sem, seval, hki, hcl, gM hxm, gM hci, hw1, RNode.cells, Int.natCast_add, intC, hkk, hkM, gM hym, gM hck, hw2]; refine q0 _ ?_; clear q0 Q0; simp only [go_sem])
      refine dRun_case 52 rfl (fun hc52 => ?_) (fun hc52 => ?_)
      ·
       simp only [List.set_cons_zero, List.set_cons_succ]
       have hk2 : y.t.k ≠ 1 := by simpa using hc52
       iterate 8 (refine dRun_chunk 1 fun Q0 q0 => ?_; simp only [↓dRun, ↓dOp, ↓aops, ↓aop, ↓aWant, ↓aVal, go_sem, seval, hki, hcl, gM hxm, gM hci, hw1, RNode.cells, Int.natCast_add, intC, hkk, hkM, gM hym, gM hck, hw2]; refine q0 _ ?_; clear q0 Q0; simp only [go_sem])
       refine dRun_case 60 rfl (fun hc60 => ?_) (fun hc60 => ?_)
       ·
        simp only [List.set_cons_zero, List.set_cons_succ]
        have hkn : ¬ x.t.k = y.t.k := by simpa using hc60
        have hca : ClashAt (shR M) s v := (clashAt_iff hxm hym).2 ⟨hk1, hk2, .inl hkn⟩
        refine dRun_skips 7 (by kernel_rfl) ?_
        simp only [uN, bL, bS, bA]
        refine dRun_chunk 1 fun Q0 q0 => ?_
        simp only [↓dRun, ↓dOp, ↓aops, ↓aop, ↓aWant, ↓aVal, go_sem, seval, hki, hcl, gM hxm, gM hci, hw1, RNode.cells, Int.natCast_add, intC, hkk, hkM, gM hym, gM hck, hw2]
        refine q0 _ ?_
        clear q0 Q0
        simp only [go_sem]
        simp only [↓dRun, ↓dOp, ↓aops, ↓aop, ↓aWant, ↓aVal, go_sem, seval, hki, hcl, gM hxm, gM hci, hw1, RNode.cells, Int.natCast_add, intC, hkk, hkM, gM hym, gM hck, hw2]
        refine j0 _ ?_
        clear j0 J0
        simp only [bL, aops, thenQ, blockQ, noGotoQ]
        refine y3 _ ?_
        try clear y3 Y3
        refine AWp_cond (b := true) (by first | exact rfl | exact congrArg (fun b => AV.v (.bool b)) hb69) (fun _ => ?_) (fun h => (by cases h))
        refine AWp_seqK fun Y3 y3 => ?_
        refine AWp_region ?_
        simp only [↓aops, ↓aop, ↓aWant, ↓aVal, go_sem, seval, hki, hcl, gM hxm, gM hci, hw1, RNode.cells, Int.natCast_add, intC, hkk, hkM, gM hym, gM hck, hw2]
        refine y3 _ ?_
        try clear y3 Y3
        refine AWp_ret ?_
        try simp only [thenQ, blockQ, noGotoQ, retQ, aRes, tupOf, bS, bA]
        rw [clB_of hki hkk (by rw [hci, hck, hcc]) hca]; exact Le.refl _
       ·
        simp only [List.set_cons_zero, List.set_cons_succ]
        have hke : x.t.k = y.t.k := by simpa using hc60
        iterate 8 (refine dRun_chunk 1 fun Q0 q0 => ?_; simp only [↓dRun, ↓dOp, ↓aops, ↓aop, ↓aWant, ↓aVal, go_sem, seval, hki, hcl, gM hxm, gM hci, hw1, RNode.cells, Int.natCast_add, intC, hkk, hkM, gM hym, gM hck, hw2]; refine q0 _ ?_; clear q0 Q0; simp only [go_sem])
        simp only [↓dRun, ↓dOp, ↓aops, ↓aop, ↓aWant, ↓aVal, go_sem, seval, hki, hcl, gM hxm, gM hci, hw1, RNode.cells, Int.natCast_add, intC, hkk, hkM, gM hym, gM hck, hw2]
        refine j0 _ ?_
        clear j0 J0
        simp only [bL, aops, thenQ, blockQ, noGotoQ]
        refine y3 _ ?_
        try clear y3 Y3
        refine AWp_cond rfl (fun hb69 => ?_) (fun hb69 => ?_)
        ·
         have hln2 : ¬ x.parts.length = y.parts.length := by (have h9 := hb69; simp at h9; omega)
         have hca : ClashAt (shR M) s v := (clashAt_iff hxm hym).2 ⟨hk1, hk2, .inr hln2⟩
         refine AWp_seqK fun Y3 y3 => ?_
         refine AWp_region ?_
         simp only [↓aops, ↓aop, ↓aWant, ↓aVal, go_sem, seval, hki, hcl, gM hxm, gM hci, hw1, RNode.cells, Int.natCast_add, intC, hkk, hkM, gM hym, gM hck, hw2]
         refine y3 _ ?_
         try clear y3 Y3
         refine AWp_ret ?_
         try simp only [thenQ, blockQ, noGotoQ, retQ, aRes, tupOf, bS, bA]
         rw [clB_of hki hkk (by rw [hci, hck, hcc]) hca]; exact Le.refl _
        ·
         have hln2 : x.parts.length = y.parts.length := by (have h9 := hb69; simp at h9; omega)
         have hno : c[s]? = c[v]? → ¬ ClashAt (shR M) s v := by rw [clashAt_iff hxm hym]; exact fun _ h => h.2.2.elim (fun e => e hke) (fun e => e hln2)
         refine AWp_skip ?_
         try simp only [thenQ, blockQ, noGotoQ]
         refine y2 _ ?_
         try clear y2 Y2
         refine AWp_region ?_
         iterate 2 (refine aops_chunk 1 fun Q0 q0 => ?_; simp only [↓aops, ↓aop, ↓aWant, ↓aVal, go_sem, seval, hki, hcl, gM hxm, gM hci, hw1, RNode.cells, Int.natCast_add, intC, hkk, hkM, gM hym, gM hck, hw2]; refine q0 _ ?_; clear q0 Q0; simp only [go_sem])
         simp only [↓aops, ↓aop, ↓aWant, ↓aVal, go_sem, seval, hki, hcl, gM hxm, gM hci, hw1, RNode.cells, Int.natCast_add, intC, hkk, hkM, gM hym, gM hck, hw2]
         refine ⟨(v + 1), ⟨by omega, hv.2.next hno⟩, by omega, ?_⟩
         simp only [maskL, setsL, putsO, putO, mB, List.set_cons_zero, List.set_cons_succ, seval, Int.natCast_add, Int.natCast_one, Int.cast_ofNat_Int]
         refine Weak.sub ?_ ⟨rfl, trivial⟩ (by first | omega | (simp only; omega)) (by first | omega | (simp only; omega)) ?_ ?_
         · simp only [go_sem, Le.refl, Le.any]
         · repeat' first | exact trivial | exact .any _ | exact .ptr (by omega) | exact .v _ _ | exact Und.data (RNode.dataSl _) | exact Und.data (dataInts _) | exact Und.data (.eptr (RNode.data _)) | (refine ⟨?_, ?_⟩)
         · exact ⟨by omega, ⟨Und.data (RNode.dataSl _), Und.data (dataInts _), trivial⟩, trivial⟩
      ·
       simp only [List.set_cons_zero, List.set_cons_succ]
       have hk2 : y.t.k = 1 := by simpa using hc52
       have hno : c[s]? = c[v]? → ¬ ClashAt (shR M) s v := by rw [clashAt_iff hxm hym]; exact fun _ h => h.2.1 hk2
       refine dRun_skips 16 (by kernel_rfl) ?_
       simp only [uN, bL, bS, bA]
       simp only [↓dRun, ↓dOp, ↓aops, ↓aop, ↓aWant, ↓aVal, go_sem, seval, hki, hcl, gM hxm, gM hci, hw1, RNode.cells, Int.natCast_add, intC, hkk, hkM, gM hym, gM hck, hw2]
       refine j0 _ ?_
       clear j0 J0
       simp only [bL, aops, thenQ, blockQ, noGotoQ]
       refine y3 _ ?_
       try clear y3 Y3
       refine AWp_cond (b := false) (by first | exact rfl | exact congrArg (fun b => AV.v (.bool b)) hb69) (fun h => (by cases h)) (fun _ => ?_)
       refine AWp_skip ?_
       try simp only [thenQ, blockQ, noGotoQ]
       refine y2 _ ?_
       try clear y2 Y2
       refine AWp_region ?_
       iterate 2 (refine aops_chunk 1 fun Q0 q0 => ?_; simp only [↓aops, ↓aop, ↓aWant, ↓aVal, go_sem, seval, hki, hcl, gM hxm, gM hci, hw1, RNode.cells, Int.natCast_add, intC, hkk, hkM, gM hym, gM hck, hw2]; refine q0 _ ?_; clear q0 Q0; simp only [go_sem])
       simp only [↓aops, ↓aop, ↓aWant, ↓aVal, go_sem, seval, hki, hcl, gM hxm, gM hci, hw1, RNode.cells, Int.natCast_add, intC, hkk, hkM, gM hym, gM hck, hw2]
       refine ⟨(v + 1), ⟨by omega, hv.2.next hno⟩, by omega, ?_⟩
       simp only [maskL, setsL, putsO, putO, mB, List.set_cons_zero, List.set_cons_succ, seval, Int.natCast_add, Int.natCast_one, Int.cast_ofNat_Int]
       refine Weak.sub ?_ ⟨rfl, trivial⟩ (by first | omega | (simp only; omega)) (by first | omega | (simp only; omega)) ?_ ?_
       · simp only [go_sem, Le.refl, Le.any]
       · repeat' first | exact trivial | exact .any _ | exact .ptr (by omega) | exact .v _ _ | exact Und.data (RNode.dataSl _) | exact Und.data (dataInts _) | exact Und.data (.eptr (RNode.data _)) | (refine ⟨?_, ?_⟩)
       · exact ⟨by omega, ⟨Und.data (RNode.dataSl _), Und.data (dataInts _), trivial⟩, trivial⟩
     ·
      simp only [List.set_cons_zero, List.set_cons_succ]
      have hk1 : x.t.k = 1 := by simpa using hc46
      have hno : c[s]? = c[v]? → ¬ ClashAt (shR M) s v := by rw [clashAt_iff hxm hym]; exact fun _ h => h.1 hk1
      refine dRun_skips 4 (by kernel_rfl) ?_
      simp only [uN, bL, bS, bA]
      iterate 2 (refine dRun_chunk 1 fun Q0 q0 => ?_; simp only [↓dRun, ↓dOp, ↓aops, ↓aop, ↓aWant, ↓aVal, go_sem, seval, hki, hcl, gM hxm, gM hci, hw1, RNode.cells, Int.natCast_add, intC, hkk, hkM, gM hym, gM hck, hw2]; refine q0 _ ?_; clear q0 Q0; simp only [go_sem])
      refine dRun_skips 16 (by kernel_rfl) ?_
      simp only [uN, bL, bS, bA]
      simp only [↓dRun, ↓dOp, ↓aops, ↓aop, ↓aWant, ↓aVal, go_sem, seval, hki, hcl, gM hxm, gM hci, hw1, RNode.cells, Int.natCast_add, intC, hkk, hkM, gM hym, gM hck, hw2]
      refine j0 _ ?_
      clear j0 J0
      simp only [bL, aops, thenQ, blockQ, noGotoQ]
      refine y3 _ ?_
      try clear y3 Y3
      refine AWp_cond (b := false) (by first | exact rfl | exact congrArg (fun b => AV.v (.bool b)) hb69) (fun h => (by cases h)) (fun _ => ?_)
      refine AWp_skip ?_
      try simp only [thenQ, blockQ, noGotoQ]
      refine y2 _ ?_
      try clear y2 Y2
      refine AWp_region ?_
      iterate 2 (refine aops_chunk 1 fun Q0 q0 => ?_; simp only [↓aops, ↓aop, ↓aWant, ↓aVal, go_sem, seval, hki, hcl, gM hxm, gM hci, hw1, RNode.cells, Int.natCast_add, intC, hkk, hkM, gM hym, gM hck, hw2]; refine q0 _ ?_; clear q0 Q0; simp only [go_sem])
      simp only [↓aops, ↓aop, ↓aWant, ↓aVal, go_sem, seval, hki, hcl, gM hxm, gM hci, hw1, RNode.cells, Int.natCast_add, intC, hkk, hkM, gM hym, gM hck, hw2]
      refine ⟨(v + 1), ⟨by omega, hv.2.next hno⟩, by omega, ?_⟩
      simp only [maskL, setsL, putsO, putO, mB, List.set_cons_zero, List.set_cons_succ, seval, Int.natCast_add, Int.natCast_one, Int.cast_ofNat_Int]
      refine Weak.sub ?_ ⟨rfl, trivial⟩ (by first | omega | (simp only; omega)) (by first | omega | (simp only; omega)) ?_ ?_
      · simp only [go_sem, Le.refl, Le.any]
      · repeat' first | exact trivial | exact .any _ | exact .ptr (by omega) | exact .v _ _ | exact Und.data (RNode.dataSl _) | exact Und.data (dataInts _) | exact Und.data (.eptr (RNode.data _)) | (refine ⟨?_, ?_⟩)
      · exact ⟨by omega, ⟨Und.data (RNode.dataSl _), Und.data (dataInts _), trivial⟩, trivial⟩
    ·
     simp only [List.set_cons_zero, List.set_cons_succ]
     have hnc : ¬ ci = ck := by simpa using hc40
     have hno : c[s]? = c[v]? → ¬ ClashAt (shR M) s v := by rw [hci, hck]; exact fun e => absurd (Option.some.inj e) hnc
     refine dRun_skips 4 (by kernel_rfl) ?_
     simp only [uN, bL, bS, bA]
     iterate 2 (refine dRun_chunk 1 fun Q0 q0 => ?_; simp only [↓dRun, ↓dOp, ↓aops, ↓aop, ↓aWant, ↓aVal, go_sem, seval, hki, hcl, gM hxm, gM hci, hw1, RNode.cells, Int.natCast_add, intC, hkk, hkM, gM hym, gM hck, hw2]; refine q0 _ ?_; clear q0 Q0; simp only [go_sem])
     refine dRun_skips 4 (by kernel_rfl) ?_
     simp only [uN, bL, bS, bA]
     iterate 2 (refine dRun_chunk 1 fun Q0 q0 => ?_; simp only [↓dRun, ↓dOp, ↓aops, ↓aop, ↓aWant, ↓aVal, go_sem, seval, hki, hcl, gM hxm, gM hci, hw1, RNode.cells, Int.natCast_add, intC, hkk, hkM, gM hym, gM hck, hw2]; refine q0 _ ?_; clear q0 Q0; simp only [go_sem])
     refine dRun_skips 16 (by kernel_rfl) ?_
     simp only [uN, bL, bS, bA]
     simp only [↓dRun, ↓dOp, ↓aops, ↓aop, ↓aWant, ↓aVal, go_sem, seval, hki, hcl, gM hxm, gM hci, hw1, RNode.cells, Int.natCast_add, intC, hkk, hkM, gM hym, gM hck, hw2]
     refine j0 _ ?_
     clear j0 J0
     simp only [bL, aops, thenQ, blockQ, noGotoQ]
     refine y3 _ ?_
     try clear y3 Y3
     refine AWp_cond (b := false) (by first | exact rfl | exact congrArg (fun b => AV.v (.bool b)) hb69) (fun h => (by cases h)) (fun _ => ?_)
     refine AWp_skip ?_
     try simp only [thenQ, blockQ, noGotoQ]
     refine y2 _ ?_
     try clear y2 Y2
     refine AWp_region ?_
     iterate 2 (refine aops_chunk 1 fun Q0 q0 => ?_; simp only [↓aops, ↓aop, ↓aWant, ↓aVal, go_sem, seval, hki, hcl, gM hxm, gM hci, hw1, RNode.cells, Int.natCast_add, intC, hkk, hkM, gM hym, gM hck, hw2]; refine q0 _ ?_; clear q0 Q0; simp only [go_sem])
     simp only [↓aops, ↓aop, ↓aWant, ↓aVal, go_sem, seval, hki, hcl, gM hxm, gM hci, hw1, RNode.cells, Int.natCast_add, intC, hkk, hkM, gM hym, gM hck, hw2]
     refine ⟨(v + 1), ⟨by omega, hv.2.next hno⟩, by omega, ?_⟩
     simp only [maskL, setsL, putsO, putO, mB, List.set_cons_zero, List.set_cons_succ, seval, Int.natCast_add, Int.natCast_one, Int.cast_ofNat_Int]
     refine Weak.sub ?_ ⟨rfl, trivial⟩ (by first | omega | (simp only; omega)) (by first | omega | (simp only; omega)) ?_ ?_
     · simp only [go_sem, Le.refl, Le.any]
     · repeat' first | exact trivial | exact .any _ | exact .ptr (by omega) | exact .v _ _ | exact Und.data (RNode.dataSl _) | exact Und.data (dataInts _) | exact Und.data (.eptr (RNode.data _)) | (refine ⟨?_, ?_⟩)
     · exact ⟨by omega, ⟨Und.data (RNode.dataSl _), Und.data (dataInts _), trivial⟩, trivial⟩
   ·
    have hkv : v = s := by have h9 := hb16; simp at h9; have := hv.1; omega
    refine AWp_exit ?_
    simp only [thenQ, blockQ, noGotoQ, bA, Nat.reduceEqDiff, ↓reduceIte]
    refine y1 _ ?_
    try clear y1 Y1
    refine AWp_region ?_
    iterate 2 (refine aops_chunk 1 fun Q0 q0 => ?_; simp only [↓aops, ↓aop, ↓aWant, ↓aVal, go_sem, seval, hki, hcl, gM hxm, gM hci, hw1, RNode.cells, Int.natCast_add, intC]; refine q0 _ ?_; clear q0 Q0; simp only [go_sem])
    simp only [↓aops, ↓aop, ↓aWant, ↓aVal, go_sem, seval, hki, hcl, gM hxm, gM hci, hw1, RNode.cells, Int.natCast_add, intC]
    refine ⟨(s + 1), ⟨by omega, (hkv ▸ hv.2).row⟩, by omega, ?_⟩
    simp only [maskL, setsL, putsO, putO, mB, List.set_cons_zero, List.set_cons_succ, seval, hki, hcl, gM hxm, gM hci, hw1, RNode.cells, Int.natCast_add, Int.natCast_one, Int.cast_ofNat_Int, intC]
    exact Weak.mk (by simp only [go_sem, Le.refl, Le.any, Le.slNil, Int.natCast_add, Int.cast_ofNat_Int, Int.natCast_one]) (fun _ _ h => h) rfl rfl
  ·
   have hks : s = M.length := by have h9 := hb11; simp at h9; have := hs.1; omega
   refine AWp_exit ?_
   simp only [thenQ, blockQ, noGotoQ, bA, Nat.reduceEqDiff, ↓reduceIte]
   refine y0 _ ?_
   try clear y0 Y0
   refine AWp_seqK fun Y0 y0 => ?_
   refine AWp_region ?_
   simp only [↓aops, ↓aop, ↓aWant, ↓aVal, go_sem, seval]
   refine y0 _ ?_
   try clear y0 Y0
   refine AWp_ret ?_
   try simp only [thenQ, blockQ, noGotoQ, retQ, aRes, tupOf, bS, bA]
   rw [(hks ▸ hs.2 : NoCl M c M.length 0).all]; exact Le.refl _
end Go.Proofs.Ytjjjckjebkmnjaa
namespace Go.Proofs.Ytjjjckjebkmnjaa
open Go Go.RowKit
theorem vns_len (m : List RNode) : (vns m).length ≤ m.length := by unfold vns; rw [List.length_map]; exact List.length_filter_le _ _
theorem rights_okE (es : List EqT) (h : sumP (es.map EqT.p) ≤ 160) : sumP ((rightsE es).map EqT.p) ≤ 160 ∧ OkE ((rightsE es).map EqT.p) := by
  have key : ∀ l : List EqT, sumP ((rightsE l).map EqT.p) ≤ sumP (l.map EqT.p) := fun l => by
    induction l with
    | nil => simp [rightsE]
    | cons e l ih =>
      unfold rightsE at ih ⊢
      rw [List.filter_cons]
      split
      · simp only [List.map_cons, sumP]; omega
      · simp only [List.map_cons, sumP]; omega
  have h1 := key es
  refine ⟨by omega, fun e he => ?_⟩
  have h2 := sumP_mem he
  obtain ⟨x, hx, rfl⟩ := List.mem_map.1 he
  have h3 := (List.mem_filter.1 hx).2
  simp only [EqT.ok, Bool.and_eq_true] at h3
  exact ⟨h3.1, h3.2, by omega, by omega⟩
end Go.Proofs.Ytjjjckjebkmnjaa
namespace Go.Proofs.Ytjjjckjebkmnjaa
open Go Go.RowKit
structure Hom (m : List RNode) (E : List (Nat × Nat)) (m' : List RNode) (E' : List (Nat × Nat)) (f : Nat → Nat) : Prop where
  node : ∀ (i : Nat) (r : RNode), m[i]? = some r → ∃ r', m'[f i]? = some r' ∧ r'.t = r.t ∧ r'.parts.length = r.parts.length ∧ ∀ (j : Nat) (p p' : Int), r.parts[j]? = some p → r'.parts[j]? = some p' → p'.toNat = f p.toNat
  eqs : ∀ e ∈ E, Cl (shR m') E' (f e.1) (f e.2)
theorem Hom.cl {m m' : List RNode} {E E' : List (Nat × Nat)} {f : Nat → Nat} (h : Hom m E m' E' f) {i k : Nat} (hc : Cl (shR m) E i k) : Cl (shR m') E' (f i) (f k) := by
  refine Cl.least (R := fun i k => Cl (shR m') E' (f i) (f k)) ⟨h.eqs, fun _ => .refl _, fun _ _ h => .symm h, fun _ _ _ h k => .trans h k, ?_⟩ hc
  intro i k j c p q ps qs hik hi hk h1 hl hp hq
  obtain ⟨x, hx, rfl, rfl⟩ := shR_at hi
  obtain ⟨y, hy, hyk, rfl⟩ := shR_at hk
  obtain ⟨x', hx', hxt, hxl, hxp⟩ := h.node i x hx
  obtain ⟨y', hy', hyt, hyl, hyp⟩ := h.node k y hy
  have hj := (List.getElem?_eq_some_iff.1 hp).1
  have hp' : x'.parts[j]? = some (x'.parts[j]'(by omega)) := List.getElem?_eq_getElem (by omega)
  have hq' : y'.parts[j]? = some (y'.parts[j]'(by omega)) := List.getElem?_eq_getElem (by omega)
  rw [← hxp j p _ hp hp', ← hyp j q _ hq hq']
  exact Cl.part hik (shR_of hx') (by rw [shR_of hy', hyt, hyk, ← hxt]) (by rw [hxt]; exact h1) (by omega) hp' hq'
theorem Hom.clash {m m' : List RNode} {E E' : List (Nat × Nat)} {f : Nat → Nat} (h : Hom m E m' E' f) (hc : Clash (shR m) E) : Clash (shR m') E' := by
  obtain ⟨i, k, hik, c, d, ps, qs, hi, hk, h1, h2, h3⟩ := hc
  obtain ⟨x, hx, rfl, rfl⟩ := shR_at hi
  obtain ⟨y, hy, rfl, rfl⟩ := shR_at hk
  obtain ⟨x', hx', hxt, hxl, _⟩ := h.node i x hx
  obtain ⟨y', hy', hyt, hyl, _⟩ := h.node k y hy
  refine ⟨f i, f k, h.cl hik, _, _, _, _, shR_of hx', shR_of hy', by rw [hxt]; exact h1, by rw [hyt]; exact h2, ?_⟩
  rw [hxt, hyt, hxl, hyl]
  exact h3
def HomN (m m' : List RNode) (f : Nat → Nat) : Prop :=
  ∀ (i : Nat) (r : RNode), m[i]? = some r → ∃ r', m'[f i]? = some r' ∧ r'.t = r.t ∧ r'.parts.length = r.parts.length ∧ ∀ (j : Nat) (p p' : Int), r.parts[j]? = some p → r'.parts[j]? = some p' → p'.toNat = f p.toNat
def VarU (m : List RNode) : Prop := ∀ (i j : Nat) (r s : RNode), m[i]? = some r → m[j]? = some s → r.t.k = 1 → s.t.k = 1 → r.t.n = s.t.n → i = j
theorem HomN.ext {G : GS} {m m' : List RNode} {f g : Nat → Nat} (hR : Rel G m) (h : HomN m m' f) (e : ∀ i, i < m.length → g i = f i) : HomN m m' g := fun i r hr => by
  have hil := (List.getElem?_eq_some_iff.1 hr).1
  obtain ⟨r', h1, h2, h3, h4⟩ := h i r hr
  refine ⟨r', by rw [e i hil]; exact h1, h2, h3, fun j p p' hp hp' => ?_⟩
  have hm := hR.mok r (List.mem_of_getElem? hr) p (List.mem_of_getElem? hp)
  rw [h4 j p p' hp hp', e _ (by omega)]
theorem HomN.snoc {G : GS} {m m' : List RNode} {f : Nat → Nat} (hR : Rel G m) (h : HomN m m' f) {x : RNode} (hx : ∀ p ∈ x.parts, 0 ≤ p ∧ p < (m.length : Int)) {a : Nat} {y : RNode} (hy : m'[a]? = some y) (ht : y.t = x.t) (hl : y.parts.length = x.parts.length)
    (hp : ∀ (j : Nat) (p p' : Int), x.parts[j]? = some p → y.parts[j]? = some p' → p'.toNat = f p.toNat) : HomN (m ++ [x]) m' (fun i => if i = m.length then a else f i) := by
  have h' := HomN.ext (g := fun i => if i = m.length then a else f i) hR h (fun i hi => by rw [if_neg (by omega)])
  intro i r hr
  rcases Nat.lt_or_ge i m.length with hi | hi
  · rw [List.getElem?_append_left hi] at hr
    exact h' i r hr
  · have hi2 : i = m.length := by
      have := (List.getElem?_eq_some_iff.1 hr).1
      simp only [List.length_append, List.length_cons, List.length_nil] at this
      omega
    subst hi2
    rw [List.getElem?_append_right (Nat.le_refl _), Nat.sub_self] at hr
    simp only [List.getElem?_cons_zero, Option.some.injEq] at hr
    subst hr
    refine ⟨y, by simp only [if_true]; exact hy, ht, hl, fun j p p' h1 h2 => ?_⟩
    have h5 := hx p (List.mem_of_getElem? h1)
    have h6 : ¬ p.toNat = m.length := by omega
    simp only [if_neg h6]
    exact hp j p p' h1 h2
end Go.Proofs.Ytjjjckjebkmnjaa
namespace Go.Proofs.Ytjjjckjebkmnjaa
open Go Go.RowKit
theorem idxI_no {g : RNode → Bool} {m : List RNode} (h : idxI g m = -1) {i : Nat} {r : RNode} (hr : m[i]? = some r) : g r = false := by
  cases hg : g r with
  | false => rfl
  | true =>
    have ha : m.any g = true := List.any_eq_true.2 ⟨r, List.mem_of_getElem? hr, hg⟩
    unfold idxI at h
    rw [if_pos ha] at h
    omega
theorem idxI_neg (g : RNode → Bool) (m : List RNode) (h : idxI g m < 0) : idxI g m = -1 := by
  unfold idxI at h ⊢
  split at h
  · omega
  · rename_i hn; rw [if_neg hn]
theorem VarU.empty : VarU [] := by intro i j r s h; simp at h
theorem snoc_at {m : List RNode} {x r : RNode} {i : Nat} (h : (m ++ [x])[i]? = some r) : (i < m.length ∧ m[i]? = some r) ∨ (i = m.length ∧ r = x) := by
  rcases Nat.lt_or_ge i m.length with hi | hi
  · rw [List.getElem?_append_left hi] at h
    exact .inl ⟨hi, h⟩
  · have hi2 : i = m.length := by
      have := (List.getElem?_eq_some_iff.1 h).1
      simp only [List.length_append, List.length_cons, List.length_nil] at this
      omega
    subst hi2
    rw [List.getElem?_append_right (Nat.le_refl _), Nat.sub_self] at h
    simp only [List.getElem?_cons_zero, Option.some.injEq] at h
    exact .inr ⟨rfl, h.symm⟩
theorem VarU.snoc {m : List RNode} (h : VarU m) {x : RNode} (hx : x.t.k = 1 → idxI (RNode.isVar x.t.n) m = -1) : VarU (m ++ [x]) := by
  intro i j r s hr hs h1 h2 h3
  rcases snoc_at hr with ⟨_, hr2⟩ | ⟨hi, rfl⟩ <;> rcases snoc_at hs with ⟨_, hs2⟩ | ⟨hj, rfl⟩
  · exact h i j r s hr2 hs2 h1 h2 h3
  · have := idxI_no (hx h2) hr2
    simp [RNode.isVar, h1, h3] at this
  · have := idxI_no (hx h1) hs2
    simp [RNode.isVar, h2, h3] at this
  · omega
theorem varU_addL : ∀ (ps : List Ty) (_ : ∀ p ∈ ps, ∀ (m : List RNode), VarU m → VarU (p.radd m).1) (m : List RNode) (l : List Int), VarU m → VarU (Ty.raddL ps m l).1
  | [], _, m, l, h => by simpa [Ty.raddL] using h
  | p :: ps, hp, m, l, h => by
    simp only [Ty.raddL]
    exact varU_addL ps (fun q hq => hp q (by simp [hq])) _ _ (hp p (by simp) m h)
theorem varU_add : ∀ (T : Ty), T.right = true → ∀ (m : List RNode), VarU m → VarU (T.radd m).1 := by
  refine Ty.ind fun T ih => ?_
  intro hr m h
  obtain ⟨hok, hps⟩ := T.right_ok hr
  rw [Ty.radd_eq]
  split
  · exact h
  · rename_i hn
    refine (varU_addL T.ps (fun p hp => ih p hp (hps p hp)) m [] h).snoc fun h1 => ?_
    simp only at h1
    have hps0 : T.ps = [] := by rw [T.var_eq hr h1]; rfl
    rw [hps0]
    simp only [Ty.raddL]
    exact idxI_neg _ _ (by omega)
theorem Rel.nodeT {G : GS} {m : List RNode} (h : Rel G m) {i : Nat} {r : RNode} (hr : m[i]? = some r) : r.t.right = true ∧ r.parts.length = r.t.ps.length ∧
    ∀ (j : Nat) (p : Int) (q : Ty), r.parts[j]? = some p → r.t.ps[j]? = some q → (m[p.toNat]?).map RNode.t = some q := by
  have hl := (List.getElem?_eq_some_iff.1 hr).1
  have hGi : G.N[i]? = some (G.N[i]'(by have := h.len; omega)) := List.getElem?_eq_getElem (by have := h.len; omega)
  obtain ⟨_, _, _, _, _, h6, h7, h8⟩ := h.node i _ _ hGi hr
  exact ⟨h6, h7, fun j p q hp hq => (h8 j p q hp hq).2.2⟩
theorem map_t {m : List RNode} {i : Nat} {T : Ty} (h : (m[i]?).map RNode.t = some T) : ∃ r, m[i]? = some r ∧ r.t = T ∧ i < m.length := by
  cases hm : m[i]? with
  | none => rw [hm] at h; cases h
  | some r => rw [hm] at h; exact ⟨r, rfl, Option.some.inj h, (List.getElem?_eq_some_iff.1 hm).1⟩
theorem hom_addL {m' : List RNode} : ∀ (ps : List Ty) (_ : ∀ p ∈ ps, ∀ (G : GS) (m : List RNode) (f : Nat → Nat) (a' : Nat), Rel G m → HomN m m' f → (m'[a']?).map RNode.t = some p → RelStep p G m ∧ ∃ g, HomN (p.radd m).1 m' g ∧ g (p.radd m).2.toNat = a' ∧ ∀ i, i < m.length → g i = f i)
    (G : GS) (m : List RNode) (f : Nat → Nat) (l cs : List Int), Rel G m → HomN m m' f → cs.length = ps.length → (∀ (j : Nat) (a : Int) (q : Ty), cs[j]? = some a → ps[j]? = some q → (m'[a.toNat]?).map RNode.t = some q) →
    ∃ g l', HomN (Ty.raddL ps m l).1 m' g ∧ (Ty.raddL ps m l).2 = l ++ l' ∧ (∀ (j : Nat) (p a : Int), l'[j]? = some p → cs[j]? = some a → g p.toNat = a.toNat) ∧ ∀ i, i < m.length → g i = f i
  | [], _, G, m, f, l, cs, hR, h, hl, _ => ⟨f, [], by simpa [Ty.raddL] using h, by simp [Ty.raddL], by simp, fun _ _ => rfl⟩
  | p :: ps, hp, G, m, f, l, [], _, _, hl, _ => by simp at hl
  | p :: ps, hp, G, m, f, l, a :: cs, hR, h, hl, ha => by
    obtain ⟨s, g1, h1, h2, h3⟩ := hp p (by simp) G m f a.toNat hR h (ha 0 a p rfl rfl)
    obtain ⟨g2, l', h4, h5, h6, h7⟩ := hom_addL ps (fun q hq => hp q (by simp [hq])) (p.gadd G).1 (p.radd m).1 g1 (l ++ [(p.radd m).2]) cs s.rel h1 (by simpa using hl) (fun j a q h8 h9 => ha (j + 1) a q (by simpa using h8) (by simpa using h9))
    have hlen := s.pre.len
    obtain ⟨_, _, _, h10⟩ := map_t s.at'
    simp only [Ty.raddL]
    refine ⟨g2, (p.radd m).2 :: l', h4, by rw [h5]; simp, fun j b c hb hc => ?_, fun i hi => by rw [h7 i (by omega), h3 i hi]⟩
    cases j with
    | zero => simp at hb hc; subst hb; subst hc; rw [h7 _ h10, h2]
    | succ j => exact h6 j b c (by simpa using hb) (by simpa using hc)
theorem hom_add {G' : GS} {m' : List RNode} (hR' : Rel G' m') (hV : VarU m') : ∀ (T : Ty), T.right = true → T.cnt ≤ 400 → ∀ (G : GS) (m : List RNode) (f : Nat → Nat) (a' : Nat), Rel G m → HomN m m' f → (m'[a']?).map RNode.t = some T →
    ∃ g, HomN (T.radd m).1 m' g ∧ g (T.radd m).2.toNat = a' ∧ ∀ i, i < m.length → g i = f i := by
  refine Ty.ind fun T ih => ?_
  intro hr hc G m f a' h hf ha
  obtain ⟨hok, hps⟩ := T.right_ok hr
  obtain ⟨y, hy, hyt, _⟩ := map_t ha
  obtain ⟨_, hyl, hyp⟩ := hR'.nodeT hy
  rw [hyt] at hyl hyp
  by_cases hk : T.k = 1
  · have hT := T.var_eq hr hk
    have hps0 : T.ps = [] := by rw [hT]; rfl
    rcases h.vars T.n with ⟨hv, hi⟩ | ⟨k, hv, hi, h0⟩
    · have em : T.radd m = (m ++ [⟨T, []⟩], (m.length : Int)) := by rw [Ty.radd_eq, if_neg (by omega), hps0]; rfl
      rw [em]
      refine ⟨_, HomN.snoc h hf (x := ⟨T, []⟩) (by simp) hy hyt (by rw [hyl, hps0]; rfl) (by simp), ?_, fun i hi => ?_⟩
      · simp
      · simp only [if_neg (show ¬ i = m.length by omega)]
    · have em : T.radd m = (m, k) := by rw [Ty.radd_eq, hi, if_pos ⟨hk, h0⟩]
      rw [em]
      refine ⟨f, hf, ?_, fun _ _ => rfl⟩
      obtain ⟨r, hr1, hr2⟩ := idxI_at (g := RNode.isVar T.n) (l := m) (by omega)
      rw [hi] at hr1
      simp only [RNode.isVar, Bool.and_eq_true, beq_iff_eq] at hr2
      obtain ⟨r', h1, h2, _⟩ := hf _ r hr1
      exact hV _ _ r' y h1 hy (by rw [h2]; exact hr2.1) (by rw [hyt]; exact hk) (by rw [h2, hyt]; exact hr2.2)
  · have ih' : ∀ p ∈ T.ps, ∀ (G : GS) (m : List RNode) (f : Nat → Nat) (a' : Nat), Rel G m → HomN m m' f → (m'[a']?).map RNode.t = some p → RelStep p G m ∧ ∃ g, HomN (p.radd m).1 m' g ∧ g (p.radd m).2.toNat = a' ∧ ∀ i, i < m.length → g i = f i := fun p hp G m f a' hR hf ha =>
      ⟨rel_add p (hps p hp) (Nat.le_trans (Ty.cnt_le_mem hp) hc) G m hR, ih p hp (hps p hp) (Nat.le_trans (Ty.cnt_le_mem hp) hc) G m f a' hR hf ha⟩
    obtain ⟨g, l', h1, h2, h3, h4⟩ := hom_addL T.ps ih' G m f [] y.parts h hf hyl hyp
    obtain ⟨h5, h6, h7, l2, h8, h9, h10⟩ := rel_addL T.ps (fun p hp => rel_add p (hps p hp) (Nat.le_trans (Ty.cnt_le_mem hp) hc)) G m [] h
    simp only [List.nil_append] at h2 h8
    obtain rfl : l' = l2 := h2.symm.trans h8
    have em : T.radd m = ((Ty.raddL T.ps m []).1 ++ [⟨T, l'⟩], ((Ty.raddL T.ps m []).1.length : Int)) := by rw [Ty.radd_eq, if_neg (by omega), h2]
    rw [em]
    have hlen := h7.len
    refine ⟨_, HomN.snoc h5 h1 (x := ⟨T, l'⟩) (fun p hp => ?_) hy hyt (by rw [hyl, h9]) (fun j p p' hp hp' => (h3 j p p' hp hp').symm), ?_, fun i hi => ?_⟩
    · obtain ⟨j, hj⟩ := List.mem_iff_getElem?.1 hp
      have hjl := (List.getElem?_eq_some_iff.1 hj).1
      simp only at hjl
      obtain ⟨h11, h12⟩ := h10 j p _ hj (List.getElem?_eq_getElem (by omega))
      obtain ⟨_, _, _, h13⟩ := map_t h12
      omega
    · simp
    · simp only [if_neg (show ¬ i = (Ty.raddL T.ps m []).1.length by omega)]
      exact h4 i hi
def Tgt (m' : List RNode) (E' : List (Nat × Nat)) (e : Ty × Ty) : Prop := ∃ a b, (m'[a]?).map RNode.t = some e.1 ∧ (m'[b]?).map RNode.t = some e.2 ∧ Cl (shR m') E' a b
theorem Tgt.swap {m' : List RNode} {E' : List (Nat × Nat)} {e : Ty × Ty} (h : Tgt m' E' e) : Tgt m' E' (e.2, e.1) := by
  obtain ⟨a, b, h1, h2, h3⟩ := h
  exact ⟨b, a, h2, h1, h3.symm⟩
theorem eqF_ind {P : List (Ty × Ty) → Prop} (h0 : P []) (h1 : ∀ d e, OkE (d ++ [e]) → OkE d → P d → P (d ++ [e])) : ∀ l, OkE l → P l := by
  suffices h : ∀ (n : Nat) (l : List (Ty × Ty)), l.length = n → OkE l → P l from fun l => h l.length l rfl
  intro n
  induction n with
  | zero => intro l hl _; rw [List.length_eq_zero_iff.1 hl]; exact h0
  | succ n ih =>
    intro l hl hr
    have hne : l ≠ [] := fun e => by rw [e] at hl; simp at hl
    obtain ⟨d, e, rfl⟩ : ∃ d e, l = d ++ [e] := ⟨l.dropLast, l.getLast hne, (List.dropLast_concat_getLast hne).symm⟩
    have hd : OkE d := fun x hx => hr x (by simp [hx])
    exact h1 d e hr hd (ih d (by simp at hl; omega) hd)
theorem eqF_varU : ∀ l, OkE l → VarU (eqF l).1 := eqF_ind (by simpa [eqF] using VarU.empty) fun d e h _ ih => by
  obtain ⟨h1, h2, h3, h4⟩ := h e (by simp)
  rw [eqF_snoc]
  exact varU_add e.2 h2 _ (varU_add e.1 h1 _ ih)
theorem eqF_tgt : ∀ l, OkE l → ∀ e ∈ l, Tgt (eqF l).1 (nat2 (eqF l).2) e := eqF_ind (fun e he => by cases he) fun d e h hd ih x hx => by
  rcases List.mem_append.1 hx with hx | hx
  · obtain ⟨a, b, h1, h2, h3⟩ := ih x hx
    have hp := eqF_pre1 h
    exact ⟨a, b, hp.get h1, hp.get h2, h3.mono hp.sh (eqF_nat2 d e)⟩
  · simp at hx; subst hx
    obtain ⟨⟨G, hG⟩, _⟩ := eqF_ok d fun x hx => hd x hx
    obtain ⟨h1, h2, h3, h4⟩ := h x (by simp)
    have s1 := rel_add x.1 h1 h3 G _ hG
    have s2 := rel_add x.2 h2 h4 _ _ s1.rel
    refine ⟨(x.1.radd (eqF d).1).2.toNat, (x.2.radd (x.1.radd (eqF d).1).1).2.toNat, ?_, ?_, .base ?_⟩
    rotate_left 2
    · rw [eqF_snoc]
      simp only [eqStep, nat2, List.map_append, List.mem_append, List.map_cons, List.map_nil]
      exact .inr (List.mem_singleton.2 rfl)
    · rw [eqF_snoc]; exact s2.pre.get s1.at'
    · rw [eqF_snoc]; exact s2.at'
theorem hom_eqF {G' : GS} {m' : List RNode} {E' : List (Nat × Nat)} (hR' : Rel G' m') (hV : VarU m') : ∀ l, OkE l → (∀ e ∈ l, Tgt m' E' e) → ∃ f, Hom (eqF l).1 (nat2 (eqF l).2) m' E' f := by
  refine eqF_ind (P := fun l => (∀ e ∈ l, Tgt m' E' e) → ∃ f, Hom (eqF l).1 (nat2 (eqF l).2) m' E' f) ?_ ?_
  · intro _
    exact ⟨fun i => i, fun i r hr => by simp [eqF] at hr, fun e he => by simp [eqF, nat2] at he⟩
  · intro d e h hd ih ht
    obtain ⟨f, hf⟩ := ih fun x hx => ht x (by simp [hx])
    obtain ⟨⟨G, hG⟩, hok⟩ := eqF_ok d fun x hx => hd x hx
    obtain ⟨h1, h2, h3, h4⟩ := h e (by simp)
    have s1 := rel_add e.1 h1 h3 G _ hG
    have s2 := rel_add e.2 h2 h4 _ _ s1.rel
    obtain ⟨a, b, ha, hb, hab⟩ := ht e (by simp)
    obtain ⟨g1, k1, k2, k3⟩ := hom_add hR' hV e.1 h1 h3 G _ f a hG hf.node ha
    obtain ⟨g2, k4, k5, k6⟩ := hom_add hR' hV e.2 h2 h4 _ _ g1 b s1.rel k1 hb
    obtain ⟨_, _, _, l1⟩ := map_t s1.at'
    have l2 := s1.pre.len
    rw [eqF_snoc]
    refine ⟨g2, k4, fun x hx => ?_⟩
    simp only [eqStep, nat2, List.map_append, List.mem_append, List.map_cons, List.map_nil] at hx
    rcases hx with hx | hx
    · obtain ⟨p, hp, rfl⟩ := List.mem_map.1 hx
      have hp2 := hok p hp
      have hq := hf.eqs _ (List.mem_map.2 ⟨p, hp, rfl⟩)
      simp only at hq ⊢
      rw [k6 _ (by omega), k6 _ (by omega), k3 _ (by omega), k3 _ (by omega)]
      exact hq
    · obtain rfl := List.mem_singleton.1 hx
      simp only
      rw [k6 _ l1, k2, k5]
      exact hab
def SubE (l l' : List (Ty × Ty)) : Prop := ∀ e ∈ l, e ∈ l' ∨ (e.2, e.1) ∈ l'
theorem SubE.hom {l l' : List (Ty × Ty)} (h : SubE l l') (ho : OkE l) (ho' : OkE l') : ∃ f, Hom (eqF l).1 (nat2 (eqF l).2) (eqF l').1 (nat2 (eqF l').2) f := by
  obtain ⟨⟨G', hG'⟩, _⟩ := eqF_ok l' fun x hx => ho' x hx
  refine hom_eqF hG' (eqF_varU l' ho') l ho fun e he => ?_
  rcases h e he with h1 | h1
  · exact eqF_tgt l' ho' e h1
  · exact (eqF_tgt l' ho' _ h1).swap
theorem SubE.clashes {l l' : List (Ty × Ty)} (h : SubE l l') (ho : OkE l) (ho' : OkE l') (hc : Clashes l) : Clashes l' := by
  obtain ⟨f, hf⟩ := h.hom ho ho'
  exact hf.clash hc
theorem mem_vns {m : List RNode} {n : Int} : n ∈ vns m ↔ ∃ (i : Nat) (r : RNode), m[i]? = some r ∧ r.t.k = 1 ∧ r.t.n = n := by
  unfold vns
  constructor
  · intro h
    obtain ⟨r, hr, rfl⟩ := List.mem_map.1 h
    obtain ⟨hrm, hk⟩ := List.mem_filter.1 hr
    obtain ⟨i, hi⟩ := List.mem_iff_getElem?.1 hrm
    exact ⟨i, r, hi, by simpa using hk, rfl⟩
  · rintro ⟨i, r, hi, hk, rfl⟩
    exact List.mem_map.2 ⟨r, List.mem_filter.2 ⟨List.mem_of_getElem? hi, by simpa using hk⟩, rfl⟩
theorem vns_nodup : ∀ {m : List RNode}, VarU m → (vns m).Nodup
  | [], _ => by simp [vns]
  | r :: m, h => by
    have hm : VarU m := fun i j r s hr hs h1 h2 h3 => by
      have := h (i + 1) (j + 1) r s (by simpa using hr) (by simpa using hs) h1 h2 h3
      omega
    by_cases hk : r.t.k = 1
    · have e : vns (r :: m) = r.t.n :: vns m := by simp [vns, hk]
      rw [e, List.nodup_cons]
      refine ⟨fun hn => ?_, vns_nodup hm⟩
      obtain ⟨i, s, hs, h1, h2⟩ := mem_vns.1 hn
      have := h 0 (i + 1) r s rfl (by simpa using hs) hk h1 h2.symm
      omega
    · have e : vns (r :: m) = vns m := by simp [vns, hk]
      rw [e]
      exact vns_nodup hm
theorem Hom.vns {m m' : List RNode} {E E' : List (Nat × Nat)} {f : Nat → Nat} (h : Hom m E m' E' f) {n : Int} (hn : n ∈ vns m) : n ∈ Go.Proofs.Ytjjjckjebkmnjaa.vns m' := by
  obtain ⟨i, r, hr, h1, h2⟩ := mem_vns.1 hn
  obtain ⟨r', h3, h4, _⟩ := h.node i r hr
  exact mem_vns.2 ⟨_, r', h3, by rw [h4]; exact h1, by rw [h4]; exact h2⟩
theorem sortI_perm {a b : List Int} (h : a.Perm b) : sortI a = sortI b := by
  have tr : ∀ a b c : Int, decide (a ≤ b) = true → decide (b ≤ c) = true → decide (a ≤ c) = true := fun a b c h1 h2 => by simp only [decide_eq_true_eq] at *; omega
  have to : ∀ a b : Int, (decide (a ≤ b) || decide (b ≤ a)) = true := fun a b => by simp only [Bool.or_eq_true, decide_eq_true_eq]; omega
  have h1 := List.pairwise_mergeSort (le := fun x y : Int => decide (x ≤ y)) tr to a
  have h2 := List.pairwise_mergeSort (le := fun x y : Int => decide (x ≤ y)) tr to b
  exact List.Perm.eq_of_pairwise (le := fun a b : Int => a ≤ b) (fun a b _ _ h1 h2 => by omega) (h1.imp fun h => by simpa using h) (h2.imp fun h => by simpa using h) ((List.mergeSort_perm _ _).trans (h.trans (List.mergeSort_perm _ _).symm))
theorem SubE.vars {l l' : List (Ty × Ty)} (h : SubE l l') (h' : SubE l' l) (ho : OkE l) (ho' : OkE l') : sortI (vns (eqF l).1) = sortI (vns (eqF l').1) := by
  obtain ⟨f, hf⟩ := h.hom ho ho'
  obtain ⟨f', hf'⟩ := h'.hom ho' ho
  refine sortI_perm (List.perm_iff_count.2 fun a => ?_)
  have n1 := vns_nodup (eqF_varU l ho)
  have n2 := vns_nodup (eqF_varU l' ho')
  by_cases ha : a ∈ Go.Proofs.Ytjjjckjebkmnjaa.vns (eqF l).1
  · rw [n1.count, n2.count, if_pos ha, if_pos (hf.vns ha)]
  · rw [List.count_eq_zero_of_not_mem ha, List.count_eq_zero_of_not_mem fun hb => ha (hf'.vns hb)]
theorem VarU.idx {m : List RNode} (h : VarU m) {i : Nat} {r : RNode} (hr : m[i]? = some r) (hk : r.t.k = 1) : idxI (RNode.isVar r.t.n) m = i := by
  refine idxI_some (p := r) hr (by simp [RNode.isVar, hk]) fun j q hj hq => ?_
  cases hg : RNode.isVar r.t.n q with
  | false => rfl
  | true =>
    simp only [RNode.isVar, Bool.and_eq_true, beq_iff_eq] at hg
    have := h j i q r hq hr hg.1 hk hg.2
    omega
theorem Holds.var_hom {l l' : List (Ty × Ty)} {S T : CS} {f : Nat → Nat} (hS : Holds l S) (hT : Holds l' T) (ho' : OkE l') (hf : Hom (eqF l).1 (nat2 (eqF l).2) (eqF l').1 (nat2 (eqF l').2) f) {n i : Int} (h : vfind S.G.V n = some i) : vfind T.G.V n = some ((f i.toNat : Nat) : Int) ∧ 0 ≤ i := by
  rcases hS.2.rel.vars n with ⟨h2, _⟩ | ⟨j, h2, h3, h4⟩
  · rw [h2] at h; cases h
  · rw [h2] at h; cases h
    refine ⟨?_, h4⟩
    obtain ⟨r, hr1, hr2⟩ := idxI_at (g := RNode.isVar n) (l := (eqF l).1) (by omega)
    rw [h3] at hr1
    simp only [RNode.isVar, Bool.and_eq_true, beq_iff_eq] at hr2
    obtain ⟨r', h5, h6, _⟩ := hf.node _ r hr1
    have h7 := (eqF_varU l' ho').idx h5 (by rw [h6]; exact hr2.1)
    rw [h6, hr2.2] at h7
    exact hT.2.var h7 (by omega)
theorem Holds.one_hom {l l' : List (Ty × Ty)} {S T : CS} {f : Nat → Nat} (hS : Holds l S) (hT : Holds l' T) (hf : Hom (eqF l).1 (nat2 (eqF l).2) (eqF l').1 (nat2 (eqF l').2) f) {i j : Nat} (h : One S.F.up i j) : One T.F.up (f i) (f j) := by
  have h3 := (hS.2.w.iff i j).1 h
  rw [hS.2.rel.sh] at h3
  refine (hT.2.w.iff _ _).2 ?_
  rw [hT.2.rel.sh]
  exact hf.cl h3
theorem SubE.same1 {l l' : List (Ty × Ty)} {S T : CS} (h : SubE l l') (hS : Holds l S) (hT : Holds l' T) (ho : OkE l) (ho' : OkE l') {a b : Int} {r t : Bool} (h1 : SameR S a b r) (h2 : SameR T a b t) (hr : r = true) : t = true := by
  obtain ⟨f, hf⟩ := h.hom ho ho'
  obtain ⟨_, i, j, h3, h4, h5⟩ := h1.1 hr
  refine h2.2 ⟨hT.1, _, _, (hS.var_hom hT ho' hf h3).1, (hS.var_hom hT ho' hf h4).1, ?_⟩
  simp only [Int.toNat_natCast]
  exact hS.one_hom hT hf h5
theorem SubE.same {l l' : List (Ty × Ty)} {S T : CS} (h : SubE l l') (h' : SubE l' l) (hS : Holds l S) (hT : Holds l' T) (ho : OkE l) (ho' : OkE l') {a b : Int} {r t : Bool} (h1 : SameR S a b r) (h2 : SameR T a b t) : r = t := by
  cases r with
  | true => exact (h.same1 hS hT ho ho' h1 h2 rfl).symm
  | false =>
    cases t with
    | false => rfl
    | true => exact h'.same1 hT hS ho' ho h2 h1 rfl
theorem SubE.kind1 {l l' : List (Ty × Ty)} {S T : CS} (h : SubE l l') (hS : Holds l S) (hT : Holds l' T) (ho : OkE l) (ho' : OkE l') {n a b : Int} (h1 : KindR S n a) (h2 : KindR T n b) (ha : a ≠ 0) : b = a := by
  obtain ⟨f, hf⟩ := h.hom ho ho'
  rcases h1 with ⟨_, h3⟩ | ⟨_, i, r, x, hv, hr, hx, hk1⟩
  · exact absurd h3 ha
  have hv2 := (hS.var_hom hT ho' hf hv).1
  rcases h2 with ⟨h3 | h3, _⟩ | ⟨_, i2, r2, x2, hw, hr2, hx2, hk2⟩
  · rw [hT.1] at h3; cases h3
  · rw [hv2] at h3; cases h3
  rw [hv2] at hw
  cases hw
  have K1 := hS.2.kind hr hx hk1
  have K2 := hT.2.kind hr2 hx2 hk2
  rw [Int.toNat_natCast] at K2
  rcases K1 with ⟨h3, _⟩ | ⟨h3, j, qs, h4, h5⟩
  · exact absurd h3 ha
  · obtain ⟨y, hy, rfl, rfl⟩ := shR_at h5
    obtain ⟨y', hy', ht, _⟩ := hf.node j y hy
    refine K2.of_node hT.noClash (hf.cl h4) (c := y.t.k) (qs := y'.parts) ?_ h3
    rw [shR_of hy', ht]
theorem SubE.kind {l l' : List (Ty × Ty)} {S T : CS} (h : SubE l l') (h' : SubE l' l) (hS : Holds l S) (hT : Holds l' T) (ho : OkE l) (ho' : OkE l') {n a b : Int} (h1 : KindR S n a) (h2 : KindR T n b) : a = b := by
  by_cases ha : a = 0
  · by_cases hb : b = 0
    · rw [ha, hb]
    · exact h'.kind1 hT hS ho' ho h2 h1 hb
  · exact (h.kind1 hS hT ho ho' h1 h2 ha).symm
open Classical in
noncomputable def sameS (S : CS) (a b : Int) : Bool := decide (S.clash = false ∧ ∃ i k, vfind S.G.V a = some i ∧ vfind S.G.V b = some k ∧ One S.F.up i.toNat k.toNat)
theorem sameS_spec (S : CS) (a b : Int) : SameR S a b (sameS S a b) := by
  classical
  unfold SameR sameS
  rw [decide_eq_true_eq]
theorem SameR.eq {S : CS} {a b : Int} {r : Bool} (h : SameR S a b r) : r = sameS S a b := by
  have h1 := h.trans (sameS_spec S a b).symm
  cases r with
  | true => exact (h1.1 rfl).symm
  | false =>
    cases hs : sameS S a b with
    | false => rfl
    | true => exact h1.2 hs
theorem SameR.fsame {S S1 : CS} {a b : Int} {r : Bool} (k : FSame S.F S1.F) (e : S1 = { S with F := S1.F }) (h : SameR S1 a b r) : SameR S a b r := by
  have e1 : S1.G = S.G := by rw [e]
  have e2 : S1.clash = S.clash := by rw [e]
  unfold SameR at h ⊢
  rw [e1, e2] at h
  simp only [One.congr k.rt] at h
  exact h
theorem SubE.sameS {l l' : List (Ty × Ty)} {S T : CS} (h : SubE l l') (h' : SubE l' l) (hS : Holds l S) (hT : Holds l' T) (ho : OkE l) (ho' : OkE l') (a b : Int) : Go.Proofs.Ytjjjckjebkmnjaa.sameS S a b = Go.Proofs.Ytjjjckjebkmnjaa.sameS T a b := h.same h' hS hT ho ho' (sameS_spec S a b) (sameS_spec T a b)
theorem CSt.clash_iff {l : List (Ty × Ty)} {S : CS} (h : CSt l S) : S.clash = true ↔ Clashes l := by
  rcases h.st with ⟨h1, _⟩ | ⟨h1, h2⟩
  · rw [h1.1]
    exact ⟨fun h => (by cases h), fun h => absurd h h1.noClash⟩
  · exact ⟨fun _ => h2, fun _ => h1⟩
theorem SubE.clash {l l' : List (Ty × Ty)} {S T : CS} (h : SubE l l') (h' : SubE l' l) (hS : CSt l S) (hT : CSt l' T) : T.clash = S.clash := by
  have h1 := hS.clash_iff
  have h2 := hT.clash_iff
  rw [Bool.eq_iff_iff, h1, h2]
  exact ⟨h'.clashes hT.ok hS.ok, h.clashes hS.ok hT.ok⟩
theorem SubE.list {l l' : List (Ty × Ty)} {S T : CS} (h : SubE l l') (h' : SubE l' l) (hS : CSt l S) (hT : CSt l' T) : (if T.clash = true then [] else sortI (T.G.V.map Prod.fst)) = if S.clash = true then [] else sortI (S.G.V.map Prod.fst) := by
  rw [h.clash h' hS hT]
  split
  · rfl
  · rename_i hc
    have hc2 : S.clash = false := by simpa using hc
    have hc3 : T.clash = false := by rw [h.clash h' hS hT]; exact hc2
    rw [(hS.good hc2).2, (hT.good hc3).2, h.vars h' hS.ok hT.ok]
theorem SubE.nil (l : List (Ty × Ty)) : SubE [] l := fun _ h => by cases h
theorem SubE.snoc {d l : List (Ty × Ty)} (h : SubE d l) {e : Ty × Ty} (he : e ∈ l ∨ (e.2, e.1) ∈ l) : SubE (d ++ [e]) l := fun x hx => by
  rcases List.mem_append.1 hx with hx | hx
  · exact h x hx
  · obtain rfl := List.mem_singleton.1 hx
    exact he
noncomputable def clsF (S : CS) (v : Int) (L : List Int) : List Int := L.filter (sameS S v)
theorem clsF_yes {S : CS} {v : Int} {L : List Int} {s : Nat} {w : Int} (h : L[s]? = some w) (hr : sameS S v w = true) : clsF S v (L.take (s + 1)) = clsF S v (L.take s) ++ [w] := by
  rw [List.take_add_one, h, clsF, List.filter_append]; simp [clsF, hr]
theorem clsF_no {S : CS} {v : Int} {L : List Int} {s : Nat} {w : Int} (h : L[s]? = some w) (hr : sameS S v w = false) : clsF S v (L.take (s + 1)) = clsF S v (L.take s) := by
  rw [List.take_add_one, h, clsF, List.filter_append]; simp [clsF, hr]
theorem clsF_len (S : CS) (v : Int) (L : List Int) : (clsF S v L).length ≤ L.length := List.length_filter_le _ _
theorem SubE.clsF {l l' : List (Ty × Ty)} {S T : CS} (h : SubE l l') (h' : SubE l' l) (hS : Holds l S) (hT : Holds l' T) (ho : OkE l) (ho' : OkE l') (v : Int) (L : List Int) : Go.Proofs.Ytjjjckjebkmnjaa.clsF S v L = Go.Proofs.Ytjjjckjebkmnjaa.clsF T v L := by
  unfold Go.Proofs.Ytjjjckjebkmnjaa.clsF
  congr 1
  funext w
  exact h.sameS h' hS hT ho ho' v w
end Go.Proofs.Ytjjjckjebkmnjaa
namespace Go.Proofs.Ytjjjckjebkmnjaa
open Go Go.RowKit
theorem ColF.iff {m : List RNode} {E : List (Nat × Nat)} {c : List Int} (h : ColF m E c) (hr : ∀ e ∈ E, e.1 < m.length ∧ e.2 < m.length) (hM : MOk m) {i k : Nat} (hi : i < m.length) (hk : k < m.length) : c[i]? = c[k]? ↔ Cl (shR m) E i k :=
  h.col.iff h.held hr hM h.ok hi hk
structure ColE (l : List (Ty × Ty)) (c : List Int) : Prop where
  ok : OkE l
  len : c.length = (eqF l).1.length
  iff : ∀ i k, i < (eqF l).1.length → k < (eqF l).1.length → (c[i]? = c[k]? ↔ Cl (shR (eqF l).1) (nat2 (eqF l).2) i k)
theorem ColF.colE {l : List (Ty × Ty)} {c : List Int} (h : ColF (eqF l).1 (nat2 (eqF l).2) c) (ho : OkE l) : ColE l c := by
  obtain ⟨⟨G, hG⟩, hP⟩ := eqF_ok l fun e he => ho e he
  refine ⟨ho, h.col.len, fun i k hi hk => h.iff (fun e he => ?_) hG.mok hi hk⟩
  simp only [nat2, List.mem_map] at he
  obtain ⟨p, hp, rfl⟩ := he
  have := hP p hp
  simp only
  omega
def isWhole (m : List RNode) (c : List Int) (i k : Nat) : Bool := decide (c[k]? = c[i]?) && decide (((m[k]?).map fun x => x.t.k) ≠ some 1)
def wholeI (m : List RNode) (c : List Int) (i : Nat) : Int := idxI (isWhole m c i) (List.range m.length)
theorem isWhole_at {m : List RNode} {c : List Int} {i k : Nat} {x : RNode} {y z : Int} (hx : m[k]? = some x) (hy : c[k]? = some y) (hz : c[i]? = some z) : isWhole m c i k = (decide (y = z) && decide (x.t.k ≠ 1)) := by
  unfold isWhole
  rw [hx, hy, hz]
  congr 1 <;> simp
theorem range_at {n j q : Nat} (h : (List.range n)[j]? = some q) : q = j ∧ j < n := by
  obtain ⟨h1, h2⟩ := List.getElem?_eq_some_iff.1 h
  simp at h1 h2
  exact ⟨h2.symm, h1⟩
theorem wholeI_found {m : List RNode} {c : List Int} {i k : Nat} (hk : k < m.length) (h : isWhole m c i k = true) (hb : ∀ j, j < k → isWhole m c i j = false) : wholeI m c i = k :=
  idxI_some (p := k) (by simp [hk]) h fun j q hj hq => by
    obtain ⟨rfl, _⟩ := range_at hq
    exact hb q hj
theorem wholeI_no {m : List RNode} {c : List Int} {i : Nat} (hb : ∀ j, j < m.length → isWhole m c i j = false) : wholeI m c i = -1 :=
  idxI_none fun j q hj hq => by
    obtain ⟨rfl, _⟩ := range_at hq
    exact hb q (by simpa using hj)
theorem wholeI_spec (m : List RNode) (c : List Int) (i : Nat) : (wholeI m c i = -1 ∧ ∀ j, j < m.length → isWhole m c i j = false) ∨ ∃ k : Nat, wholeI m c i = (k : Int) ∧ k < m.length ∧ isWhole m c i k = true := by
  rcases Int.lt_or_le (wholeI m c i) 0 with h | h
  · left
    unfold wholeI at h ⊢
    have h1 : idxI (isWhole m c i) (List.range m.length) = -1 := by
      unfold idxI at h ⊢
      split at h
      · omega
      · rename_i hn; rw [if_neg hn]
    refine ⟨h1, fun j hj => ?_⟩
    cases hg : isWhole m c i j with
    | false => rfl
    | true =>
      have ha : (List.range m.length).any (isWhole m c i) = true := List.any_eq_true.2 ⟨j, by simpa using hj, hg⟩
      unfold idxI at h1
      rw [if_pos ha] at h1
      omega
  · right
    obtain ⟨r, h1, h2⟩ := idxI_at (g := isWhole m c i) (l := List.range m.length) h
    obtain ⟨h3, h4⟩ := range_at h1
    have h5 : wholeI m c i = ((wholeI m c i).toNat : Int) := by omega
    have h6 : r = (wholeI m c i).toNat := h3
    refine ⟨r, by rw [h6]; exact h5, by rw [h6]; exact h4, h2⟩
def kindN (m : List RNode) (c : List Int) (i : Nat) : Int := if 0 ≤ wholeI m c i then ((m[(wholeI m c i).toNat]?).map fun x => x.t.k).getD 0 else 0
theorem isWhole_iff {m : List RNode} {c : List Int} {i k : Nat} : isWhole m c i k = true ↔ c[k]? = c[i]? ∧ ((m[k]?).map fun x => x.t.k) ≠ some 1 := by
  unfold isWhole
  rw [Bool.and_eq_true, decide_eq_true_eq, decide_eq_true_eq]
theorem kindN_is {l : List (Ty × Ty)} {c : List Int} (h : ColE l c) {i : Nat} (hi : i < (eqF l).1.length) : KindIs (shR (eqF l).1) (nat2 (eqF l).2) i (kindN (eqF l).1 c i) := by
  unfold kindN
  rcases wholeI_spec (eqF l).1 c i with ⟨h1, h2⟩ | ⟨k, h1, h2, h3⟩
  · rw [h1, if_neg (by omega)]
    refine .inl ⟨rfl, fun j d qs hc hs => ?_⟩
    obtain ⟨x, hx, rfl, _⟩ := shR_at hs
    have hj := (List.getElem?_eq_some_iff.1 hx).1
    have h4 := h2 j hj
    rcases Decidable.em (x.t.k = 1) with e | e
    · exact e
    · exfalso
      rw [isWhole_iff.2 ⟨((h.iff i j hi hj).2 hc).symm, by rw [hx]; simpa using e⟩] at h4
      cases h4
  · rw [h1, if_pos (by omega), Int.toNat_natCast]
    obtain ⟨h4, h5⟩ := isWhole_iff.1 h3
    have hx : (eqF l).1[k]? = some ((eqF l).1[k]'h2) := List.getElem?_eq_getElem h2
    rw [hx] at h5 ⊢
    simp only [Option.map_some, Option.getD_some]
    refine .inr ⟨by simpa using h5, k, _, (h.iff i k hi h2).1 h4.symm, shR_of hx⟩
theorem KindIs.eq {sh : Sh} {E : List (Nat × Nat)} {i : Nat} {a b : Int} (h : KindIs sh E i a) (k : KindIs sh E i b) (hn : ¬ Clash sh E) : a = b := by
  rcases h with ⟨rfl, h⟩ | ⟨ha, j, qs, hj, hs⟩
  · rcases k with ⟨rfl, _⟩ | ⟨hb, j, qs, hj, hs⟩
    · rfl
    · exact absurd (h j b qs hj hs) hb
  · exact (k.of_node hn hj hs ha).symm
theorem Holds.vf {l : List (Ty × Ty)} {S : CS} (h : Holds l S) (n : Int) : (vfind S.G.V n = Option.none ∧ idxI (RNode.isVar n) (eqF l).1 = -1) ∨ ∃ i : Nat, vfind S.G.V n = some (i : Int) ∧ idxI (RNode.isVar n) (eqF l).1 = (i : Int) ∧ i < (eqF l).1.length := by
  rcases h.2.rel.vars n with h1 | ⟨k, h1, h2, h3⟩
  · exact .inl h1
  · obtain ⟨i, rfl⟩ : ∃ i : Nat, k = (i : Int) := ⟨k.toNat, by omega⟩
    obtain ⟨r, h4, _⟩ := idxI_at (g := RNode.isVar n) (l := (eqF l).1) (by omega)
    rw [h2, Int.toNat_natCast] at h4
    exact .inr ⟨i, h1, h2, (List.getElem?_eq_some_iff.1 h4).1⟩
theorem Holds.kind_eq {l : List (Ty × Ty)} {S : CS} (h : Holds l S) {c : List Int} (hc : ColE l c) {n k : Int} {i : Nat} (hk : KindR S n k) (hi : idxI (RNode.isVar n) (eqF l).1 = (i : Int)) : k = kindN (eqF l).1 c i := by
  rcases h.vf n with ⟨_, h2⟩ | ⟨j, h1, h2, h3⟩
  · omega
  · obtain rfl : j = i := by omega
    rcases hk with ⟨h4 | h4, _⟩ | ⟨_, i2, r2, x2, hw, hr2, hx2, hk2⟩
    · rw [h.1] at h4; cases h4
    · rw [h1] at h4; cases h4
    · rw [h1] at hw; cases hw
      have K := h.2.kind hr2 hx2 hk2
      rw [Int.toNat_natCast] at K
      exact K.eq (kindN_is hc h3) h.noClash
theorem Holds.kind_no {l : List (Ty × Ty)} {S : CS} (h : Holds l S) {n k : Int} (hk : KindR S n k) (hi : idxI (RNode.isVar n) (eqF l).1 < 0) : k = 0 := by
  rcases h.vf n with ⟨h1, h2⟩ | ⟨j, h1, h2, h3⟩
  · rcases hk with ⟨_, h4⟩ | ⟨_, i2, r2, x2, hw, _⟩
    · exact h4
    · rw [h1] at hw; cases hw
  · omega
theorem Holds.same_eq {l : List (Ty × Ty)} {S : CS} (h : Holds l S) {c : List Int} (hc : ColE l c) {a b : Int} {i k : Nat} (hi : idxI (RNode.isVar a) (eqF l).1 = (i : Int)) (hk : idxI (RNode.isVar b) (eqF l).1 = (k : Int)) : sameS S a b = decide (c[i]? = c[k]?) := by
  rcases h.vf a with ⟨_, h2⟩ | ⟨j, h1, h2, h3⟩
  · omega
  · obtain rfl : j = i := by omega
    rcases h.vf b with ⟨_, h5⟩ | ⟨q, h4, h5, h6⟩
    · omega
    · obtain rfl : q = k := by omega
      have h7 := sameS_spec S a b
      unfold SameR at h7
      rw [Bool.eq_iff_iff, h7, decide_eq_true_eq, hc.iff j q h3 h6]
      have h8 := h.2.w.iff j q
      rw [h.2.rel.sh] at h8
      rw [← h8]
      constructor
      · rintro ⟨_, i', k', e1, e2, e3⟩
        rw [h1] at e1; rw [h4] at e2
        cases e1; cases e2
        simpa using e3
      · intro e
        exact ⟨h.1, _, _, h1, h4, by simpa using e⟩
theorem Holds.same_self {l : List (Ty × Ty)} {S : CS} (h : Holds l S) (a : Int) : sameS S a a = decide (0 ≤ idxI (RNode.isVar a) (eqF l).1) := by
  have h7 := sameS_spec S a a
  unfold SameR at h7
  rw [Bool.eq_iff_iff, h7, decide_eq_true_eq]
  rcases h.vf a with ⟨h1, h2⟩ | ⟨j, h1, h2, h3⟩
  · rw [h2]
    constructor
    · rintro ⟨_, i', k', e1, _⟩
      rw [h1] at e1; cases e1
    · intro e; omega
  · rw [h2]
    exact ⟨fun _ => by omega, fun _ => ⟨h.1, _, _, h1, h1, .inl rfl⟩⟩
theorem Holds.same_no {l : List (Ty × Ty)} {S : CS} (h : Holds l S) {a : Int} (ha : idxI (RNode.isVar a) (eqF l).1 < 0) (b : Int) : sameS S a b = false := by
  have h7 := sameS_spec S a b
  unfold SameR at h7
  cases hs : sameS S a b with
  | false => rfl
  | true =>
    rw [hs] at h7
    obtain ⟨_, i', k', e1, _⟩ := h7.1 rfl
    rcases h.vf a with ⟨h1, h2⟩ | ⟨j, h1, h2, h3⟩
    · rw [h1] at e1; cases e1
    · omega
def clsN (m : List RNode) (c : List Int) (i : Nat) (L : List Int) : List Int := L.filter fun w => decide (c[(idxI (RNode.isVar w) m).toNat]? = c[i]?)
theorem clsN_yes {m : List RNode} {c : List Int} {i : Nat} {L : List Int} {s : Nat} {w : Int} (h : L[s]? = some w) (hr : c[(idxI (RNode.isVar w) m).toNat]? = c[i]?) : clsN m c i (L.take (s + 1)) = clsN m c i (L.take s) ++ [w] := by
  rw [List.take_add_one, h, clsN, List.filter_append]; simp [clsN, hr]
theorem clsN_no {m : List RNode} {c : List Int} {i : Nat} {L : List Int} {s : Nat} {w : Int} (h : L[s]? = some w) (hr : ¬ c[(idxI (RNode.isVar w) m).toNat]? = c[i]?) : clsN m c i (L.take (s + 1)) = clsN m c i (L.take s) := by
  rw [List.take_add_one, h, clsN, List.filter_append]; simp [clsN, hr]
theorem clsN_len (m : List RNode) (c : List Int) (i : Nat) (L : List Int) : (clsN m c i L).length ≤ L.length := List.length_filter_le _ _
theorem mem_varsI {m : List RNode} {n : Int} : n ∈ varsI m ↔ n ∈ vns m := by
  rw [varsI_eq]
  exact (List.mergeSort_perm _ _).mem_iff
theorem var_idx {m : List RNode} {n : Int} (h : n ∈ varsI m) : ∃ i : Nat, idxI (RNode.isVar n) m = (i : Int) ∧ i < m.length := by
  obtain ⟨i, r, hr, h1, h2⟩ := mem_vns.1 (mem_varsI.1 h)
  have ha : m.any (RNode.isVar n) = true := List.any_eq_true.2 ⟨r, List.mem_of_getElem? hr, by simp [RNode.isVar, h1, h2]⟩
  refine ⟨m.findIdx (RNode.isVar n), by unfold idxI; rw [if_pos ha], List.findIdx_lt_length.2 (by simpa using ha)⟩
theorem Holds.cls_eq {l : List (Ty × Ty)} {S : CS} (h : Holds l S) {c : List Int} (hc : ColE l c) {a : Int} {i : Nat} (hi : idxI (RNode.isVar a) (eqF l).1 = (i : Int)) : clsF S a (varsI (eqF l).1) = clsN (eqF l).1 c i (varsI (eqF l).1) := by
  unfold clsF clsN
  refine List.filter_congr fun w hw => ?_
  obtain ⟨k, hk, _⟩ := var_idx hw
  rw [h.same_eq hc hi hk, hk, Int.toNat_natCast]
  congr 1
  exact propext eq_comm
theorem Holds.cls_no {l : List (Ty × Ty)} {S : CS} (h : Holds l S) {a : Int} (ha : idxI (RNode.isVar a) (eqF l).1 < 0) (L : List Int) : clsF S a L = [] := by
  unfold clsF
  rw [List.filter_eq_nil_iff]
  intro w _
  rw [h.same_no ha w]
  decide
end Go.Proofs.Ytjjjckjebkmnjaa
namespace Go.Proofs.Ytjjjckjebkmnjaa
open Go Go.RowKit
set_option maxRecDepth 100000
set_option maxHeartbeats 4000000
set_option linter.unusedSimpArgs false
set_option linter.unusedVariables false
attribute [local irreducible] aops dRun
theorem no_step {P : Nat → Bool} {s : Nat} (h : ∀ j, j < s → P j = false) (hs : P s = false) : ∀ j, j < s + 1 → P j = false := fun j hj => by
  rcases Nat.lt_or_ge j s with h1 | h1
  · exact h j h1
  · have : j = s := by omega
    exact this ▸ hs
def digN (n : Nat) : Nat := if n = 0 then 0 else Nat.log2 n + 1
theorem digN_step {n : Nat} (h : 0 < n) : digN n = digN (n / 2) + 1 := by
  unfold digN
  rw [if_neg (by omega), Nat.log2_def]
  by_cases h2 : 2 ≤ n
  · rw [if_pos h2, if_neg (by omega)]
  · rw [if_neg h2, if_pos (by omega)]
theorem digN_le {n : Nat} (h : n ≤ 1099511627776) : digN n ≤ 42 := by
  unfold digN
  split
  · omega
  · rename_i h0
    have := (Nat.log2_lt h0).2 (show n < 2 ^ 41 by omega)
    omega
theorem Whole_pure (M : List RNode) (c : List Int) (i : Nat) (hi : i < M.length) (hcl : c.length = M.length) (hMl : M.length ≤ 1048576) : APure Try.prog 31 [.agg [.sl 4 (M.map RNode.cells), .sl 1 (c.map intC)], .v (.int .i64 (i : Int))] (.v (.int .i64 (wholeI M c i))) := by
  refine APure.mkL (.cons (RNode.oneData M c) (.cons (.v _) .nil)) (.v _) ?_
  refine ACalls_intro Try.func31 (by kernel_rfl) rfl (by rw [Try.ntmps31]; simp) (fun hm => ?_)
  simp only [Try.ntmps31, Try.results31, List.length_cons, List.length_nil, Nat.reduceAdd, Nat.reduceSub, List.replicate_succ, List.replicate_zero, List.cons_append, List.nil_append]
  obtain ⟨z, hzc⟩ : ∃ z, c[i]? = some z := ⟨_, List.getElem?_eq_getElem (by omega)⟩
  refine AWp_seqK fun Y0 y0 => ?_
  refine AWp_region ?_
  refine aops_chunk 1 fun Q0 q0 => ?_
  simp only [↓aops, ↓aop, ↓aWant, ↓aVal, go_sem, seval]
  refine q0 _ ?_
  clear q0 Q0
  simp only [go_sem]
  simp only [↓aops, ↓aop, ↓aWant, ↓aVal, go_sem, seval]
  refine y0 _ ?_
  try clear y0 Y0
  refine AWp_seqK fun Y0 y0 => ?_
  refine AWp_seqK fun Y1 y1 => ?_
  refine AWp_region ?_
  simp only [↓aops, ↓aop, ↓aWant, ↓aVal, go_sem, seval]
  refine y1 _ ?_
  try clear y1 Y1
  refine AWp_block ?_
  refine AWp_loopM (σ := Nat) (mB 35 38) (fun s => s ≤ M.length ∧ ∀ j, j < s → isWhole M c i j = false) (fun s => [(5, .v (.int .i64 (s : Int)))]) (fun s => []) (fun s => M.length - s) 0 (⟨Nat.zero_le _, fun j hj => by omega⟩) ?_ (fun s hs => ?_)
  ·
   simp only [maskL, setsL, putsO, putO, mB, List.set_cons_zero, List.set_cons_succ, seval]
   exact Weak.mk (by simp only [go_sem, Le.refl, Le.any, Le.slNil, Int.natCast_add, Int.cast_ofNat_Int, Int.natCast_one]) (fun _ _ h => h) rfl rfl
  simp only [maskL, setsL, putsO, putO, mB, List.set_cons_zero, List.set_cons_succ, seval]
  refine AWp_seqK fun Y1 y1 => ?_
  refine AWp_seqK fun Y2 y2 => ?_
  refine AWp_region ?_
  iterate 4 (refine aops_chunk 1 fun Q0 q0 => ?_; simp only [↓aops, ↓aop, ↓aWant, ↓aVal, go_sem, seval]; refine q0 _ ?_; clear q0 Q0; simp only [go_sem])
  simp only [↓aops, ↓aop, ↓aWant, ↓aVal, go_sem, seval]
  refine y2 _ ?_
  try clear y2 Y2
  refine AWp_cond rfl (fun hb10 => ?_) (fun hb10 => ?_)
  ·
   have hki : s < M.length := by simpa using hb10
   obtain ⟨x, hxm⟩ : ∃ x, M[s]? = some x := ⟨_, List.getElem?_eq_getElem hki⟩
   obtain ⟨y, hyc⟩ : ∃ z, c[s]? = some z := ⟨_, List.getElem?_eq_getElem (by omega)⟩
   have hw1 : IntKind.i64.wrap ((s : Int) + 1) = (s : Int) + 1 := wrap_in (by omega) (by omega)
   have hwat := isWhole_at hxm hyc hzc
   refine AWp_skip ?_
   try simp only [thenQ, blockQ, noGotoQ]
   refine y1 _ ?_
   try clear y1 Y1
   refine AWp_seqK fun Y1 y1 => ?_
   refine AWp_block ?_
   refine AWp_seqK fun Y2 y2 => ?_
   refine AWp_drawK 21 mixed (by kernel_rfl) fun J0 j0 => ?_
   iterate 12 (simp only [go_sem]; refine dRun_chunk 1 fun Q0 q0 => ?_; simp only [↓dRun, ↓dOp, ↓aops, ↓aop, ↓aWant, ↓aVal, go_sem, seval, hki, hi, hcl, gM hxm, gM hyc, gM hzc, hw1, RNode.cells, Int.natCast_add, intC]; refine q0 _ ?_; clear q0 Q0)
   simp only [go_sem]
   refine dRun_case 24 rfl (fun hc24 => ?_) (fun hc24 => ?_)
   ·
    simp only [List.set_cons_zero, List.set_cons_succ]
    have hcc : y = z := by simpa using hc24
    iterate 8 (refine dRun_chunk 1 fun Q0 q0 => ?_; simp only [↓dRun, ↓dOp, ↓aops, ↓aop, ↓aWant, ↓aVal, go_sem, seval, hki, hi, hcl, gM hxm, gM hyc, gM hzc, hw1, RNode.cells, Int.natCast_add, intC]; refine q0 _ ?_; clear q0 Q0; simp only [go_sem])
    simp only [↓dRun, ↓dOp, ↓aops, ↓aop, ↓aWant, ↓aVal, go_sem, seval, hki, hi, hcl, gM hxm, gM hyc, gM hzc, hw1, RNode.cells, Int.natCast_add, intC]
    refine j0 _ ?_
    clear j0 J0
    simp only [bL, aops, thenQ, blockQ, noGotoQ]
    refine y2 _ ?_
    try clear y2 Y2
    refine AWp_cond rfl (fun hb33 => ?_) (fun hb33 => ?_)
    ·
     have hk1 : ¬ x.t.k = 1 := by simpa using hb33
     have hyes : isWhole M c i s = true := by rw [hwat, decide_eq_true hcc, show decide (x.t.k ≠ 1) = true from decide_eq_true hk1]; rfl
     have hres := wholeI_found hki hyes hs.2
     refine AWp_seqK fun Y2 y2 => ?_
     refine AWp_region ?_
     refine aops_chunk 1 fun Q0 q0 => ?_
     simp only [↓aops, ↓aop, ↓aWant, ↓aVal, go_sem, seval, hki, hi, hcl, gM hxm, gM hyc, gM hzc, hw1, RNode.cells, Int.natCast_add, intC]
     refine q0 _ ?_
     clear q0 Q0
     simp only [go_sem]
     simp only [↓aops, ↓aop, ↓aWant, ↓aVal, go_sem, seval, hki, hi, hcl, gM hxm, gM hyc, gM hzc, hw1, RNode.cells, Int.natCast_add, intC]
     refine y2 _ ?_
     try clear y2 Y2
     refine AWp_ret ?_
     try simp only [thenQ, blockQ, noGotoQ, retQ, aRes, tupOf, bS, bA]
     rw [hres]; exact Le.refl _
    ·
     have hk1 : x.t.k = 1 := by simpa using hb33
     have hno : isWhole M c i s = false := by rw [hwat, show decide (x.t.k ≠ 1) = false from decide_eq_false (fun h => h hk1), Bool.and_false]
     refine AWp_skip ?_
     try simp only [thenQ, blockQ, noGotoQ]
     refine y1 _ ?_
     try clear y1 Y1
     refine AWp_region ?_
     iterate 2 (refine aops_chunk 1 fun Q0 q0 => ?_; simp only [↓aops, ↓aop, ↓aWant, ↓aVal, go_sem, seval, hki, hi, hcl, gM hxm, gM hyc, gM hzc, hw1, RNode.cells, Int.natCast_add, intC]; refine q0 _ ?_; clear q0 Q0; simp only [go_sem])
     simp only [↓aops, ↓aop, ↓aWant, ↓aVal, go_sem, seval, hki, hi, hcl, gM hxm, gM hyc, gM hzc, hw1, RNode.cells, Int.natCast_add, intC]
     refine ⟨(s + 1), ⟨by omega, no_step hs.2 hno⟩, by omega, ?_⟩
     simp only [maskL, setsL, putsO, putO, mB, List.set_cons_zero, List.set_cons_succ, seval, hki, hi, hcl, gM hxm, gM hyc, gM hzc, hw1, RNode.cells, Int.natCast_add, Int.natCast_one, Int.cast_ofNat_Int, intC]
     exact Weak.mk (by simp only [go_sem, Le.refl, Le.any, Le.slNil, Int.natCast_add, Int.cast_ofNat_Int, Int.natCast_one]) (fun _ _ h => h) rfl rfl
   ·
    simp only [List.set_cons_zero, List.set_cons_succ]
    have hnc : ¬ y = z := by simpa using hc24
    have hno : isWhole M c i s = false := by rw [hwat, decide_eq_false hnc, Bool.false_and]
    iterate 8 (refine dRun_chunk 1 fun Q0 q0 => ?_; simp only [↓dRun, ↓dOp, ↓aops, ↓aop, ↓aWant, ↓aVal, go_sem, seval, hki, hi, hcl, gM hxm, gM hyc, gM hzc, hw1, RNode.cells, Int.natCast_add, intC]; refine q0 _ ?_; clear q0 Q0; simp only [go_sem])
    simp only [↓dRun, ↓dOp, ↓aops, ↓aop, ↓aWant, ↓aVal, go_sem, seval, hki, hi, hcl, gM hxm, gM hyc, gM hzc, hw1, RNode.cells, Int.natCast_add, intC]
    refine j0 _ ?_
    clear j0 J0
    simp only [bL, aops, thenQ, blockQ, noGotoQ]
    refine y2 _ ?_
    try clear y2 Y2
    refine AWp_cond (b := false) (by first | exact rfl | exact congrArg (fun b => AV.v (.bool b)) hb33) (fun h => (by cases h)) (fun _ => ?_)
    refine AWp_skip ?_
    try simp only [thenQ, blockQ, noGotoQ]
    refine y1 _ ?_
    try clear y1 Y1
    refine AWp_region ?_
    iterate 2 (refine aops_chunk 1 fun Q0 q0 => ?_; simp only [↓aops, ↓aop, ↓aWant, ↓aVal, go_sem, seval, hki, hi, hcl, gM hxm, gM hyc, gM hzc, hw1, RNode.cells, Int.natCast_add, intC]; refine q0 _ ?_; clear q0 Q0; simp only [go_sem])
    simp only [↓aops, ↓aop, ↓aWant, ↓aVal, go_sem, seval, hki, hi, hcl, gM hxm, gM hyc, gM hzc, hw1, RNode.cells, Int.natCast_add, intC]
    refine ⟨(s + 1), ⟨by omega, no_step hs.2 hno⟩, by omega, ?_⟩
    simp only [maskL, setsL, putsO, putO, mB, List.set_cons_zero, List.set_cons_succ, seval, hki, hi, hcl, gM hxm, gM hyc, gM hzc, hw1, RNode.cells, Int.natCast_add, Int.natCast_one, Int.cast_ofNat_Int, intC]
    exact Weak.mk (by simp only [go_sem, Le.refl, Le.any, Le.slNil, Int.natCast_add, Int.cast_ofNat_Int, Int.natCast_one]) (fun _ _ h => h) rfl rfl
  ·
   have hks : s = M.length := by have h9 := hb10; simp at h9; have := hs.1; omega
   have hres := wholeI_no (m := M) (c := c) (i := i) (hks ▸ hs.2)
   refine AWp_exit ?_
   simp only [thenQ, blockQ, noGotoQ, bA, Nat.reduceEqDiff, ↓reduceIte]
   refine y0 _ ?_
   try clear y0 Y0
   refine AWp_seqK fun Y0 y0 => ?_
   refine AWp_region ?_
   simp only [↓aops, ↓aop, ↓aWant, ↓aVal, go_sem, seval]
   refine y0 _ ?_
   try clear y0 Y0
   refine AWp_ret ?_
   try simp only [thenQ, blockQ, noGotoQ, retQ, aRes, tupOf, bS, bA]
   rw [hres]; exact Le.refl _
theorem RKind_pure (M : List RNode) (c : List Int) (i : Nat) (hi : i < M.length) (hcl : c.length = M.length) (hMl : M.length ≤ 1048576) : APure Try.prog 29 [.agg [.sl 4 (M.map RNode.cells), .sl 1 (c.map intC)], .v (.int .i64 (i : Int))] (.v (.int .i64 (kindN M c i))) := by
  refine APure.mkL (.cons (RNode.oneData M c) (.cons (.v _) .nil)) (.v _) ?_
  refine ACalls_intro Try.func29 (by kernel_rfl) rfl (by rw [Try.ntmps29]; simp) (fun hm => ?_)
  simp only [Try.ntmps29, Try.results29, List.length_cons, List.length_nil, Nat.reduceAdd, Nat.reduceSub, List.replicate_succ, List.replicate_zero, List.cons_append, List.nil_append]
  refine AWp_seqK fun Y0 y0 => ?_
  refine AWp_region ?_
  refine aops_chunk 1 fun Q0 q0 => ?_
  simp only [↓aops, ↓aop, ↓aWant, ↓aVal, go_sem, seval]
  refine q0 _ ?_
  clear q0 Q0
  simp only [go_sem]
  simp only [↓aops, ↓aop, ↓aWant, ↓aVal, go_sem, seval]
  refine y0 _ ?_
  try clear y0 Y0
  refine AWp_seqK fun Y0 y0 => ?_
  refine AWp_seqK fun Y1 y1 => ?_
  refine AWp_region ?_
  iterate 2 (refine aops_chunk 1 fun Q0 q0 => ?_; simp only [↓aops, ↓aop, ↓aWant, ↓aVal, go_sem, seval]; refine q0 _ ?_; clear q0 Q0; simp only [go_sem])
  refine aops_chunk 1 fun Q0 q0 => ?_
  simp only [↓aops, ↓aop, ↓aWant, ↓aVal, go_sem, seval]
  refine APure.call (Whole_pure M c i hi hcl hMl) ?_
  try simp only [bS, bA, thenQ, blockQ, noGotoQ]
  refine q0 _ ?_
  clear q0 Q0
  simp only [go_sem]
  simp only [↓aops, ↓aop, ↓aWant, ↓aVal, go_sem, seval]
  refine y1 _ ?_
  try clear y1 Y1
  refine AWp_seqK fun Y1 y1 => ?_
  refine AWp_region ?_
  refine aops_chunk 1 fun Q0 q0 => ?_
  simp only [↓aops, ↓aop, ↓aWant, ↓aVal, go_sem, seval]
  refine q0 _ ?_
  clear q0 Q0
  simp only [go_sem]
  simp only [↓aops, ↓aop, ↓aWant, ↓aVal, go_sem, seval]
  refine y1 _ ?_
  try clear y1 Y1
  refine AWp_cond rfl (fun hb10 => ?_) (fun hb10 => ?_)
  ·
   have hw0 : 0 ≤ wholeI M c i := by simpa using hb10
   obtain ⟨k, hk1, hk2, hk3⟩ : ∃ k : Nat, wholeI M c i = (k : Int) ∧ k < M.length ∧ isWhole M c i k = true := by (rcases wholeI_spec M c i with h9 | h9; exact absurd h9.1 (by omega); exact h9)
   obtain ⟨x, hxm⟩ : ∃ x, M[k]? = some x := ⟨_, List.getElem?_eq_getElem hk2⟩
   have hres : kindN M c i = x.t.k := by rw [kindN, if_pos hw0, hk1, Int.toNat_natCast, hxm]; rfl
   refine AWp_seqK fun Y1 y1 => ?_
   refine AWp_region ?_
   iterate 7 (refine aops_chunk 1 fun Q0 q0 => ?_; simp only [↓aops, ↓aop, ↓aWant, ↓aVal, go_sem, seval, hk1, hk2, gM hxm, RNode.cells]; refine q0 _ ?_; clear q0 Q0; simp only [go_sem])
   simp only [↓aops, ↓aop, ↓aWant, ↓aVal, go_sem, seval, hk1, hk2, gM hxm, RNode.cells]
   refine y1 _ ?_
   try clear y1 Y1
   refine AWp_ret ?_
   try simp only [thenQ, blockQ, noGotoQ, retQ, aRes, tupOf, bS, bA]
   rw [hres]; exact Le.refl _
  ·
   have hw0 : ¬ 0 ≤ wholeI M c i := by simpa using hb10
   have hres : kindN M c i = 0 := by rw [kindN, if_neg hw0]
   refine AWp_skip ?_
   try simp only [thenQ, blockQ, noGotoQ]
   refine y0 _ ?_
   try clear y0 Y0
   refine AWp_seqK fun Y0 y0 => ?_
   refine AWp_region ?_
   simp only [↓aops, ↓aop, ↓aWant, ↓aVal, go_sem, seval]
   refine y0 _ ?_
   try clear y0 Y0
   refine AWp_ret ?_
   try simp only [thenQ, blockQ, noGotoQ, retQ, aRes, tupOf, bS, bA]
   rw [hres]; exact Le.refl _
theorem RCls_pure (M : List RNode) (c : List Int) (i : Nat) (hi : i < M.length) (hcl : c.length = M.length) (hMl : M.length ≤ 1048576) : APure Try.prog 30 [.agg [.sl 4 (M.map RNode.cells), .sl 1 (c.map intC)], .v (.int .i64 (i : Int))] (.sl 1 ((clsN M c i (varsI M)).map intC)) := by
  refine APure.mkL (.cons (RNode.oneData M c) (.cons (.v _) .nil)) (dataInts _) ?_
  refine ACalls_intro Try.func30 (by kernel_rfl) rfl (by rw [Try.ntmps30]; simp) (fun hm => ?_)
  simp only [Try.ntmps30, Try.results30, List.length_cons, List.length_nil, Nat.reduceAdd, Nat.reduceSub, List.replicate_succ, List.replicate_zero, List.cons_append, List.nil_append]
  obtain ⟨z, hzc⟩ : ∃ z, c[i]? = some z := ⟨_, List.getElem?_eq_getElem (by omega)⟩
  have hVl : (varsI M).length ≤ 1048576 := by (rw [varsI_eq, List.length_mergeSort]; unfold vns; rw [List.length_map]; exact Nat.le_trans (List.length_filter_le _ _) hMl)
  refine AWp_seqK fun Y0 y0 => ?_
  refine AWp_region ?_
  refine aops_chunk 1 fun Q0 q0 => ?_
  simp only [↓aops, ↓aop, ↓aWant, ↓aVal, go_sem, seval]
  refine q0 _ ?_
  clear q0 Q0
  simp only [go_sem]
  iterate 2 (simp only [↓aops, ↓aop, ↓aWant, ↓aVal, go_sem, seval]; refine y0 _ ?_; (try clear y0 Y0); refine AWp_seqK fun Y0 y0 => ?_; refine AWp_region ?_)
  iterate 2 (refine aops_chunk 1 fun Q0 q0 => ?_; simp only [↓aops, ↓aop, ↓aWant, ↓aVal, go_sem, seval]; refine q0 _ ?_; clear q0 Q0; simp only [go_sem])
  refine aops_chunk 1 fun Q0 q0 => ?_
  simp only [↓aops, ↓aop, ↓aWant, ↓aVal, go_sem, seval]
  refine APure.call (RGVars_pure M hMl) ?_
  try simp only [bS, bA, thenQ, blockQ, noGotoQ]
  refine q0 _ ?_
  clear q0 Q0
  simp only [go_sem]
  simp only [↓aops, ↓aop, ↓aWant, ↓aVal, go_sem, seval]
  refine y0 _ ?_
  try clear y0 Y0
  refine AWp_seqK fun Y0 y0 => ?_
  obtain ⟨L, hL⟩ : ∃ L, L = varsI M := ⟨_, rfl⟩
  rw [← hL]
  rw [← hL] at hVl
  refine AWp_seqK fun Y1 y1 => ?_
  refine AWp_region ?_
  simp only [↓aops, ↓aop, ↓aWant, ↓aVal, go_sem, seval]
  refine y1 _ ?_
  try clear y1 Y1
  refine AWp_block ?_
  refine AWp_weak (Weak.tokSlot 5 3 1 rfl) ?_
  simp only [List.set_cons_zero, List.set_cons_succ]
  refine AWp_loopM (σ := Nat) (mB 42 230) (fun s => s ≤ L.length) (fun s => [(5, .osl 1 1 ((clsN M c i (L.take s)).map intC)), (7, .v (.int .i64 (s : Int)))]) (fun s => [(1, .tok 3 1 (clsN M c i (L.take s)).length)]) (fun s => L.length - s) 0 (Nat.zero_le _) ?_ (fun s hs => ?_)
  ·
   simp only [maskL, setsL, putsO, putO, mB, List.set_cons_zero, List.set_cons_succ, seval, bL, clsN, List.filter_nil]
   exact Weak.mk (by simp only [go_sem, Le.refl, Le.any, Le.slNil, Int.natCast_add, Int.cast_ofNat_Int, Int.natCast_one]) (fun _ _ h => h) rfl rfl
  simp only [maskL, setsL, putsO, putO, mB, List.set_cons_zero, List.set_cons_succ, seval]
  refine AWp_seqK fun Y1 y1 => ?_
  refine AWp_seqK fun Y2 y2 => ?_
  refine AWp_region ?_
  iterate 3 (refine aops_chunk 1 fun Q0 q0 => ?_; simp only [↓aops, ↓aop, ↓aWant, ↓aVal, go_sem, seval]; refine q0 _ ?_; clear q0 Q0; simp only [go_sem])
  simp only [↓aops, ↓aop, ↓aWant, ↓aVal, go_sem, seval]
  refine y2 _ ?_
  try clear y2 Y2
  refine AWp_cond rfl (fun hb14 => ?_) (fun hb14 => ?_)
  ·
   have hk : s < L.length := by simpa using hb14
   obtain ⟨w, he⟩ : ∃ w, L[s]? = some w := ⟨_, List.getElem?_eq_getElem hk⟩
   obtain ⟨q, hq1, hq2⟩ := var_idx (m := M) (n := w) (by rw [← hL]; exact List.mem_of_getElem? he)
   obtain ⟨y, hyc⟩ : ∃ z, c[q]? = some z := ⟨_, List.getElem?_eq_getElem (by omega)⟩
   have hw : IntKind.i64.wrap ((s : Int) + 1) = (s : Int) + 1 := wrap_in (by omega) (by omega)
   have hrl := clsN_len M c i (L.take s)
   have hrt : (L.take s).length ≤ s := by simp; omega
   have hb1 : ((clsN M c i (L.take s)).length + 1) * 8 ≤ 140737488355328 := by omega
   have hb2 : (clsN M c i (L.take s)).length + 1 ≤ maxLen := by simp only [maxLen]; omega
   refine AWp_skip ?_
   try simp only [thenQ, blockQ, noGotoQ]
   refine y1 _ ?_
   try clear y1 Y1
   refine AWp_seqK fun Y1 y1 => ?_
   refine AWp_block ?_
   refine AWp_seqK fun Y2 y2 => ?_
   refine AWp_drawK 17 mixed (by kernel_rfl) fun J0 j0 => ?_
   iterate 8 (simp only [go_sem]; refine dRun_chunk 1 fun Q0 q0 => ?_; simp only [↓dRun, ↓dOp, ↓aops, ↓aop, ↓aWant, ↓aVal, go_sem, seval, hk, hi, hcl, hq1, hq2, gM he, gM hyc, gM hzc, hw, hb1, hb2, Int.natCast_add, intC]; refine q0 _ ?_; clear q0 Q0)
   simp only [go_sem]
   refine dRun_chunk 1 fun Q0 q0 => ?_
   simp only [↓dRun, ↓dOp, ↓aops, ↓aop, ↓aWant, ↓aVal, go_sem, seval, hk, hi, hcl, hq1, hq2, gM he, gM hyc, gM hzc, hw, hb1, hb2, Int.natCast_add, intC]
   refine ⟨_, RVar_pure M w, ?_⟩
   try simp only [bS, bA, thenQ, blockQ, noGotoQ]
   iterate 7 (refine q0 _ ?_; clear q0 Q0; simp only [go_sem]; refine dRun_chunk 1 fun Q0 q0 => ?_; simp only [↓dRun, ↓dOp, ↓aops, ↓aop, ↓aWant, ↓aVal, go_sem, seval, hk, hi, hcl, hq1, hq2, gM he, gM hyc, gM hzc, hw, hb1, hb2, Int.natCast_add, intC])
   refine q0 _ ?_
   clear q0 Q0
   simp only [go_sem]
   simp only [↓dRun, ↓dOp, ↓aops, ↓aop, ↓aWant, ↓aVal, go_sem, seval, hk, hi, hcl, hq1, hq2, gM he, gM hyc, gM hzc, hw, hb1, hb2, Int.natCast_add, intC]
   refine j0 _ ?_
   clear j0 J0
   simp only [bL, aops, thenQ, blockQ, noGotoQ]
   refine y2 _ ?_
   try clear y2 Y2
   refine AWp_cond rfl (fun hb33 => ?_) (fun hb33 => ?_)
   ·
    have hyz : y = z := by simpa using hb33
    have hst := clsN_yes (m := M) (c := c) (i := i) he (by rw [hq1, Int.toNat_natCast, hyc, hzc, hyz])
    refine AWp_region ?_
    iterate 5 (refine aops_chunk 1 fun Q0 q0 => ?_; simp only [↓aops, ↓aop, ↓aWant, ↓aVal, go_sem, seval, hk, hi, hcl, hq1, hq2, gM he, gM hyc, gM hzc, hw, hb1, hb2, Int.natCast_add, intC, hst, List.map_append, List.length_append]; refine q0 _ ?_; clear q0 Q0; simp only [go_sem])
    refine aops_chunk 1 fun Q0 q0 => ?_
    simp only [↓aops, ↓aop, ↓aWant, ↓aVal, go_sem, seval, ↓bs1_1, ↓bs1_2, ↓bs1_3, ↓bs1_4, ↓bs1_5, ↓bs1_6, ↓bs1_7, ↓bs1_8, ↓bs1_9, ↓bs1_10, ↓bs1_11, ↓bs1_12, hk, hi, hcl, hq1, hq2, gM he, gM hyc, gM hzc, hw, hb1, hb2, Int.natCast_add, intC, hst, List.map_append, List.length_append]
    refine q0 _ ?_
    clear q0 Q0
    simp only [go_sem]
    refine aops_chunk 1 fun Q0 q0 => ?_
    simp only [↓aops, ↓aop, ↓aWant, ↓aVal, go_sem, seval, hk, hi, hcl, hq1, hq2, gM he, gM hyc, gM hzc, hw, hb1, hb2, Int.natCast_add, intC, hst, List.map_append, List.length_append]
    refine q0 _ ?_
    clear q0 Q0
    simp only [go_sem]
    simp only [↓aops, ↓aop, ↓aWant, ↓aVal, go_sem, seval, hk, hi, hcl, hq1, hq2, gM he, gM hyc, gM hzc, hw, hb1, hb2, Int.natCast_add, intC, hst, List.map_append, List.length_append]
    refine y1 _ ?_
    try clear y1 Y1
    refine AWp_region ?_
    iterate 2 (refine aops_chunk 1 fun Q0 q0 => ?_; simp only [↓aops, ↓aop, ↓aWant, ↓aVal, go_sem, seval, hk, hi, hcl, hq1, hq2, gM he, gM hyc, gM hzc, hw, hb1, hb2, Int.natCast_add, intC, hst, List.map_append, List.length_append]; refine q0 _ ?_; clear q0 Q0; simp only [go_sem])
    simp only [↓aops, ↓aop, ↓aWant, ↓aVal, go_sem, seval, hk, hi, hcl, hq1, hq2, gM he, gM hyc, gM hzc, hw, hb1, hb2, Int.natCast_add, intC, hst, List.map_append, List.length_append]
    refine ⟨(s + 1), (by omega), by omega, ?_⟩
    simp only [maskL, setsL, putsO, putO, mB, List.set_cons_zero, List.set_cons_succ, seval, hk, hi, hcl, hq1, hq2, gM he, gM hyc, gM hzc, hw, hb1, hb2, Int.natCast_add, Int.natCast_one, Int.cast_ofNat_Int, intC, hst, List.map_append, bL, List.length_append]
    exact Weak.mk (by simp only [go_sem, Le.refl, Le.any, Le.slNil, Int.natCast_add, Int.cast_ofNat_Int, Int.natCast_one]) (fun _ _ h => h) rfl rfl
   ·
    have hyz : ¬ y = z := by simpa using hb33
    have hst := clsN_no (m := M) (c := c) (i := i) he (by rw [hq1, Int.toNat_natCast, hyc, hzc]; simpa using hyz)
    refine AWp_skip ?_
    try simp only [thenQ, blockQ, noGotoQ]
    refine y1 _ ?_
    try clear y1 Y1
    refine AWp_region ?_
    iterate 2 (refine aops_chunk 1 fun Q0 q0 => ?_; simp only [↓aops, ↓aop, ↓aWant, ↓aVal, go_sem, seval, hk, hi, hcl, hq1, hq2, gM he, gM hyc, gM hzc, hw, hb1, hb2, Int.natCast_add, intC, hst]; refine q0 _ ?_; clear q0 Q0; simp only [go_sem])
    simp only [↓aops, ↓aop, ↓aWant, ↓aVal, go_sem, seval, hk, hi, hcl, hq1, hq2, gM he, gM hyc, gM hzc, hw, hb1, hb2, Int.natCast_add, intC, hst]
    refine ⟨(s + 1), (by omega), by omega, ?_⟩
    simp only [maskL, setsL, putsO, putO, mB, List.set_cons_zero, List.set_cons_succ, seval, hk, hi, hcl, hq1, hq2, gM he, gM hyc, gM hzc, hw, hb1, hb2, Int.natCast_add, Int.natCast_one, Int.cast_ofNat_Int, intC, hst]
    exact Weak.mk (by simp only [go_sem, Le.refl, Le.any, Le.slNil, Int.natCast_add, Int.cast_ofNat_Int, Int.natCast_one]) (fun _ _ h => h) rfl rfl
  ·
   have hk : s = L.length := by (have h9 := hb14; simp at h9; omega)
   refine AWp_exit ?_
   simp only [thenQ, blockQ, noGotoQ, bA, Nat.reduceEqDiff, ↓reduceIte]
   refine y0 _ ?_
   try clear y0 Y0
   refine AWp_seqK fun Y0 y0 => ?_
   refine AWp_region ?_
   refine aops_chunk 1 fun Q0 q0 => ?_
   simp only [↓aops, ↓aop, ↓aWant, ↓aVal, go_sem, seval]
   refine q0 _ ?_
   clear q0 Q0
   simp only [go_sem]
   simp only [↓aops, ↓aop, ↓aWant, ↓aVal, go_sem, seval]
   refine y0 _ ?_
   try clear y0 Y0
   refine AWp_ret ?_
   try simp only [thenQ, blockQ, noGotoQ, retQ, aRes, tupOf, bS, bA]
   rw [hk, List.take_length, ← hL]; exact Le.oslL
theorem digits_pure (n : Nat) (hn : n ≤ 1099511627776) : APure Try.prog 20 [.v (.int .i64 (n : Int))] (.v (.int .i64 (digN n : Nat))) := by
  refine APure.mkL (.cons (.v _) .nil) (.v _) ?_
  refine ACalls_intro Try.func20 (by kernel_rfl) rfl (by rw [Try.ntmps20]; simp) (fun hm => ?_)
  simp only [Try.ntmps20, Try.results20, List.length_cons, List.length_nil, Nat.reduceAdd, Nat.reduceSub, List.replicate_succ, List.replicate_zero, List.cons_append, List.nil_append]
  iterate 2 (refine AWp_seqK fun Y0 y0 => ?_; refine AWp_region ?_; simp only [↓aops, ↓aop, ↓aWant, ↓aVal, go_sem, seval]; refine y0 _ ?_; (try clear y0 Y0))
  refine AWp_seqK fun Y0 y0 => ?_
  refine AWp_block ?_
  refine AWp_loopM (σ := Nat × Nat) [true, false, false, true, false, false, false, false, false, false, false] (fun s => s.1 ≤ n ∧ digN n = digN s.1 + s.2) (fun s => [(0, .v (.int .i64 (s.1 : Int))), (3, .v (.int .i64 (s.2 : Int)))]) (fun s => []) (fun s => s.1) (n, 0) (⟨Nat.le_refl _, rfl⟩) ?_ (fun s hs => ?_)
  ·
   simp only [maskL, setsL, putsO, putO, mB, List.set_cons_zero, List.set_cons_succ, seval]
   exact Weak.mk (by simp only [go_sem, Le.refl, Le.any, Le.slNil, Int.natCast_add, Int.cast_ofNat_Int, Int.natCast_one]) (fun _ _ h => h) rfl rfl
  simp only [maskL, setsL, putsO, putO, mB, List.set_cons_zero, List.set_cons_succ, seval]
  refine AWp_seqK fun Y1 y1 => ?_
  refine AWp_seqK fun Y2 y2 => ?_
  refine AWp_region ?_
  refine aops_chunk 1 fun Q0 q0 => ?_
  simp only [↓aops, ↓aop, ↓aWant, ↓aVal, go_sem, seval]
  refine q0 _ ?_
  clear q0 Q0
  simp only [go_sem]
  simp only [↓aops, ↓aop, ↓aWant, ↓aVal, go_sem, seval]
  refine y2 _ ?_
  try clear y2 Y2
  refine AWp_cond rfl (fun hb5 => ?_) (fun hb5 => ?_)
  ·
   have hk : 0 < s.1 := by (have h9 := hb5; simp at h9; omega)
   have hst := digN_step hk
   have hdl := digN_le hn
   have hw1 : IntKind.i64.wrap (Int.tdiv (s.1 : Int) 2) = ((s.1 / 2 : Nat) : Int) := by rw [show Int.tdiv (s.1 : Int) 2 = ((s.1 / 2 : Nat) : Int) from rfl]; exact wrap_in (by omega) (by omega)
   have hw2 : IntKind.i64.wrap ((s.2 : Int) + 1) = (s.2 : Int) + 1 := wrap_in (by omega) (by omega)
   refine AWp_skip ?_
   try simp only [thenQ, blockQ, noGotoQ]
   refine y1 _ ?_
   try clear y1 Y1
   refine AWp_block ?_
   refine AWp_seqK fun Y1 y1 => ?_
   refine AWp_region ?_
   iterate 2 (refine aops_chunk 1 fun Q0 q0 => ?_; simp only [↓aops, ↓aop, ↓aWant, ↓aVal, go_sem, seval, hw1, hw2, Int.natCast_add, ne_eq, Int.reduceEq, not_false_eq_true]; refine q0 _ ?_; clear q0 Q0; simp only [go_sem])
   simp only [↓aops, ↓aop, ↓aWant, ↓aVal, go_sem, seval, hw1, hw2, Int.natCast_add, ne_eq, Int.reduceEq, not_false_eq_true]
   refine y1 _ ?_
   try clear y1 Y1
   refine AWp_region ?_
   iterate 2 (refine aops_chunk 1 fun Q0 q0 => ?_; simp only [↓aops, ↓aop, ↓aWant, ↓aVal, go_sem, seval, hw1, hw2, Int.natCast_add, ne_eq, Int.reduceEq, not_false_eq_true]; refine q0 _ ?_; clear q0 Q0; simp only [go_sem])
   simp only [↓aops, ↓aop, ↓aWant, ↓aVal, go_sem, seval, hw1, hw2, Int.natCast_add, ne_eq, Int.reduceEq, not_false_eq_true]
   refine ⟨(s.1 / 2, s.2 + 1), ⟨by simp only; omega, by simp only; rw [hs.2, hst]; omega⟩, (by simp only; omega), ?_⟩
   simp only [maskL, setsL, putsO, putO, mB, List.set_cons_zero, List.set_cons_succ, seval, hw1, hw2, Int.natCast_add, Int.natCast_one, ne_eq, Int.reduceEq, not_false_eq_true]
   exact Weak.mk (by simp only [go_sem, Le.refl, Le.any, Le.slNil, Int.natCast_add, Int.cast_ofNat_Int, Int.natCast_one]) (fun _ _ h => h) rfl rfl
  ·
   have hk : s.1 = 0 := by (have h9 := hb5; simp at h9; omega)
   have hres : digN n = s.2 := by (have h9 := hs.2; rw [hk] at h9; rw [h9]; simp [digN])
   refine AWp_exit ?_
   simp only [thenQ, blockQ, noGotoQ, bA, Nat.reduceEqDiff, ↓reduceIte]
   refine y0 _ ?_
   try clear y0 Y0
   refine AWp_seqK fun Y0 y0 => ?_
   refine AWp_region ?_
   refine aops_chunk 1 fun Q0 q0 => ?_
   simp only [↓aops, ↓aop, ↓aWant, ↓aVal, go_sem, seval]
   refine q0 _ ?_
   clear q0 Q0
   simp only [go_sem]
   simp only [↓aops, ↓aop, ↓aWant, ↓aVal, go_sem, seval]
   refine y0 _ ?_
   try clear y0 Y0
   refine AWp_ret ?_
   try simp only [thenQ, blockQ, noGotoQ, retQ, aRes, tupOf, bS, bA]
   rw [hres]; exact Le.refl _
end Go.Proofs.Ytjjjckjebkmnjaa
namespace Go.Proofs.Ytjjjckjebkmnjaa
open Go Go.RowKit
abbrev plE (es : List EqT) (k : Nat) : List (Ty × Ty) := (rightsE (es.take k)).map EqT.p
structure ClI (es : List EqT) (k : Nat) (S : CS) (sum was : Int) : Prop where
  st : CSt (plE es k) S
  num : S.clash = false → sum = 1 + (sumP (plE es k) : Int) ∧ was = S.steps
  low : S.clash = false → 0 ≤ S.steps ∧ S.steps + 9 * (nroots S.F.up : Int) ≤ 10 * (S.G.N.length : Int) + (k : Int)
theorem ClI.start (es : List EqT) : ClI es 0 CS0 1 0 := ⟨CSt.none, fun _ => ⟨by simp [plE, rightsE, sumP], rfl⟩, fun _ => by simp [CS0, nroots]⟩
theorem plE_no {es : List EqT} {k : Nat} {e : EqT} (he : es[k]? = some e) (h : e.ok = false) : plE es (k + 1) = plE es k := by
  unfold plE; rw [rightsE_no he h]
theorem plE_yes {es : List EqT} {k : Nat} {e : EqT} (he : es[k]? = some e) (h : e.ok = true) : plE es (k + 1) = plE es k ++ [e.p] := by
  unfold plE; rw [rightsE_yes he h, List.map_append]; rfl
theorem plE_sum {es : List EqT} (h : sumP (es.map EqT.p) ≤ 160) (k : Nat) : sumP (plE es k) ≤ 160 ∧ OkE (plE es k) := by
  have h1 := sumP_take (es.map EqT.p) k
  exact rights_okE (es.take k) (by rw [List.map_take]; omega)
theorem plE_right (es : List EqT) (k : Nat) : ∀ e ∈ plE es k, (e.1.right && e.2.right) = true := fun e he => by
  obtain ⟨x, hx, rfl⟩ := List.mem_map.1 he
  exact (List.mem_filter.1 hx).2
theorem eok_of {e : EqT} (h : e.ok = true) : e.l.right = true ∧ e.r.right = true := by
  simpa [EqT.ok] using h
theorem ClI.step {es : List EqT} {k : Nat} {S : CS} {sum was : Int} {e : EqT} {s : CS × Int} (h : ClI es k S sum was) (hs : sumP (es.map EqT.p) ≤ 160) (he : es[k]? = some e)
    (hE : EqR S (nat2 (eqF (plE es k)).2) (eqF (plE es k)).1 e.l e.r s) : CSt (plE es (k + 1)) s.1 := by
  have hm : e.p ∈ es.map EqT.p := List.mem_map.2 ⟨e, List.mem_of_getElem? he, rfl⟩
  have h1 := sumP_mem hm
  simp only [EqT.p] at h1
  cases hok : e.ok with
  | true =>
    obtain ⟨h2, h3⟩ := eok_of hok
    rw [plE_yes he hok]
    exact h.st.step (e := e.p) ⟨h2, h3, by simp only [EqT.p]; omega, by simp only [EqT.p]; omega⟩ hE
  | false =>
    rw [plE_no he hok]
    rcases hE with ⟨_, rfl⟩ | ⟨_, _, rfl⟩ | ⟨_, h2, h3, _⟩
    · exact h.st
    · exact h.st
    · rw [EqT.ok, h2, h3] at hok; cases hok
theorem ClI.bad {es : List EqT} {k : Nat} {S : CS} {sum was : Int} {e : EqT} {s : CS × Int} (h : ClI es k S sum was) (hs : sumP (es.map EqT.p) ≤ 160) (he : es[k]? = some e)
    (hE : EqR S (nat2 (eqF (plE es k)).2) (eqF (plE es k)).1 e.l e.r s) (hc : S.clash = true) : s = (S, 7) ∧ ClI es (k + 1) S sum was := by
  have h1 := h.step hs he hE
  rcases hE with ⟨_, rfl⟩ | ⟨h2, _⟩ | ⟨h2, _⟩
  · exact ⟨rfl, h1, fun h2 => (by rw [hc] at h2; cases h2), fun h2 => (by rw [hc] at h2; cases h2)⟩
  · rw [hc] at h2; cases h2
  · rw [hc] at h2; cases h2
theorem ClI.wrong {es : List EqT} {k : Nat} {S : CS} {sum was : Int} {e : EqT} {s : CS × Int} (h : ClI es k S sum was) (hs : sumP (es.map EqT.p) ≤ 160) (he : es[k]? = some e)
    (hE : EqR S (nat2 (eqF (plE es k)).2) (eqF (plE es k)).1 e.l e.r s) (hc : S.clash = false) (hno : e.ok = false) : s = (S, 1) ∧ ClI es (k + 1) S sum was := by
  have h1 := h.step hs he hE
  have h3 := h.num hc
  have h4 := h.low hc
  rcases hE with ⟨h2, _⟩ | ⟨_, _, rfl⟩ | ⟨_, h5, h6, _⟩
  · rw [hc] at h2; cases h2
  · refine ⟨rfl, h1, fun _ => ?_, fun _ => ?_⟩
    · rw [plE_no he hno]; exact h3
    · omega
  · rw [EqT.ok, h5, h6] at hno; cases hno
theorem ClI.good {es : List EqT} {k : Nat} {S : CS} {sum was : Int} {e : EqT} {s : CS × Int} (h : ClI es k S sum was) (hs : sumP (es.map EqT.p) ≤ 160) (hk : k < 1000) (he : es[k]? = some e)
    (hE : EqR S (nat2 (eqF (plE es k)).2) (eqF (plE es k)).1 e.l e.r s) (hR : StepR S s.1) (hc : S.clash = false) (hok : e.ok = true) :
    ClI es (k + 1) s.1 (sum + (e.l.cnt : Int) + (e.r.cnt : Int)) s.1.steps ∧ s.2 = (if s.1.clash = true then 7 else 0) ∧ S.steps ≤ s.1.steps ∧ s.1.steps ≤ 10 * (sumP (plE es (k + 1)) : Int) + (k : Int) + 1 ∧
      sum + (e.l.cnt : Int) + (e.r.cnt : Int) = 1 + (sumP (plE es (k + 1)) : Int) := by
  have h1 := h.step hs he hE
  obtain ⟨h3, h3'⟩ := h.num hc
  obtain ⟨h4, h5⟩ := h.low hc
  have hN := h.st.len
  have hP := (plE_sum hs k).1
  have hN1 := h1.len
  have hsum : sumP (plE es (k + 1)) = sumP (plE es k) + (e.l.cnt + e.r.cnt) := by
    rw [plE_yes he hok, sumP_snoc]; rfl
  have hst : S.steps ≤ s.1.steps ∧ s.1.steps + 9 * (nroots s.1.F.up : Int) ≤ 10 * (s.1.G.N.length : Int) + (k : Int) + 1 := by
    rcases hR with e1 | hR
    · rw [e1]; omega
    · obtain ⟨a1, a2, a3⟩ := hR h4 (by omega)
      omega
  have hr : s.2 = (if s.1.clash = true then 7 else 0) := by
    obtain ⟨g1, g2⟩ := eok_of hok
    rcases hE with ⟨h2, _⟩ | ⟨_, h2, _⟩ | ⟨_, _, _, _, ⟨a1, a2, _⟩ | ⟨a1, a2, _⟩⟩
    · rw [hc] at h2; cases h2
    · rw [g1, g2] at h2; cases h2
    · rw [a1, a2]; rfl
    · rw [a1, a2]; rfl
  refine ⟨⟨h1, fun _ => ⟨by omega, rfl⟩, fun _ => ⟨by omega, ?_⟩⟩, hr, hst.1, by omega, by omega⟩
  have := hst.2
  omega
theorem prod_ok {a d : Int} (ha0 : 0 ≤ a) (ha : a ≤ 161) (hd0 : 0 ≤ d) (hd : d ≤ 42) : 0 ≤ 40 * a * (d + 2) ∧ 40 * a * (d + 2) ≤ 283360 ∧ 80 * a ≤ 40 * a * (d + 2) := by
  have h1 : 40 * a * 2 ≤ 40 * a * (d + 2) := Int.mul_le_mul_of_nonneg_left (by omega) (by omega)
  have h2 : 40 * a * (d + 2) ≤ 6440 * (d + 2) := Int.mul_le_mul_of_nonneg_right (by omega) (by omega)
  refine ⟨by omega, by omega, by omega⟩
end Go.Proofs.Ytjjjckjebkmnjaa
namespace Go.Proofs.Ytjjjckjebkmnjaa
open Go Go.RowKit
set_option maxRecDepth 100000
set_option maxHeartbeats 4000000
set_option linter.unusedSimpArgs false
set_option linter.unusedVariables false
attribute [local irreducible] aops dRun
theorem CVars2_c (S : CS) (h64 : S.clash = false → ∀ q ∈ S.G.V, is64 q.1) (hl : S.clash = false → S.G.V.length ≤ 1099511627776) : CCalls (σ := Unit) 22 [.ptr 0 0] (S) (fun s => s.1 = S) (fun s => .sl 1 ((if S.clash = true then [] else sortI (S.G.V.map Prod.fst)).map intC)) := by
  refine ACalls.clean (C := fun r os => ∃ s : CS × Unit, (s.1 = S) ∧ r = (fun s : Unit => .sl 1 ((if S.clash = true then [] else sortI (S.G.V.map Prod.fst)).map intC)) s.2 ∧ os = enumO 0 (cObs s.1)) ?_
  refine ACalls_intro Try.func22 (by kernel_rfl) rfl (by rw [Try.ntmps22]; simp) (fun hm => ?_)
  simp only [Try.ntmps22, Try.results22, List.length_cons, List.length_nil, Nat.reduceAdd, Nat.reduceSub, List.replicate_succ, List.replicate_zero, List.cons_append, List.nil_append]
  simp only [cObs, enumO, Nat.reduceAdd]
  refine AWp_seqK fun Y0 y0 => ?_
  refine AWp_region ?_
  simp only [↓aops, ↓aop, ↓aWant, ↓aVal, go_sem, seval]
  refine y0 _ ?_
  try clear y0 Y0
  refine AWp_seqK fun Y0 y0 => ?_
  refine AWp_seqK fun Y1 y1 => ?_
  refine AWp_region ?_
  refine aops_chunk 1 fun Q0 q0 => ?_
  simp only [↓aops, ↓aop, ↓aWant, ↓aVal, go_sem, seval]
  refine q0 _ ?_
  clear q0 Q0
  simp only [go_sem]
  refine aops_chunk 1 fun Q0 q0 => ?_
  simp only [↓aops, ↓aop, ↓aWant, ↓aVal, go_sem, seval]
  refine CCalls.at (Err_c S) (.nil) (fun _ => .v _) (i0 := 0) (i1 := 1) (i2 := 2) (i3 := 3) (i4 := 4) (i5 := 5) (i6 := 6) (i7 := 7) (by decide) (by simp) ⟨rfl, rfl, rfl, rfl, rfl, rfl, rfl, rfl, trivial⟩ (fun Z9 u9 hZ9 => ?_)
  try dsimp only at hZ9
  simp only [cObsAt, List.zip_cons_cons, List.zip_nil_left, List.zip_nil_right, putsO, putO, Nat.reduceEqDiff, ↓reduceIte]
  obtain rfl : S = Z9 := hZ9.symm
  try simp only [bS, bA, thenQ, blockQ, noGotoQ]
  refine q0 _ ?_
  clear q0 Q0
  simp only [go_sem]
  simp only [↓aops, ↓aop, ↓aWant, ↓aVal, go_sem, seval]
  refine y1 _ ?_
  try clear y1 Y1
  refine AWp_cond rfl (fun hb5 => ?_) (fun hb5 => ?_)
  ·
   have hcs : S.clash = true := by (have h9 := hb5; cases hc : S.clash <;> simp [hc] at h9 ⊢)
   refine AWp_seqK fun Y1 y1 => ?_
   refine AWp_region ?_
   simp only [↓aops, ↓aop, ↓aWant, ↓aVal, go_sem, seval]
   refine y1 _ ?_
   try clear y1 Y1
   refine AWp_ret ?_
   try simp only [thenQ, blockQ, noGotoQ, retQ, aRes, tupOf, bS, bA]
   refine ⟨_, enumO 0 (cObs (S)), ⟨(S, ()), ?_, rfl, rfl⟩, Und.data (dataInts _), cUnd (by omega) _, ?_, ?_, by omega⟩
   · exact rfl
   ·
    rw [if_pos hcs]; exact Le.slNil 1
   · first | (refine ⟨0, rfl, rfl⟩) | (refine ⟨0, by simp only [cObs, enumO, List.drop_zero, List.drop_succ_cons, Nat.reduceAdd], rfl⟩)
  ·
   have hcs : S.clash = false := by (have h9 := hb5; cases hc : S.clash <;> simp [hc] at h9 ⊢)
   refine AWp_skip ?_
   try simp only [thenQ, blockQ, noGotoQ]
   refine y0 _ ?_
   try clear y0 Y0
   refine AWp_seqK fun Y0 y0 => ?_
   refine AWp_region ?_
   iterate 4 (refine aops_chunk 1 fun Q0 q0 => ?_; simp only [↓aops, ↓aop, ↓aWant, ↓aVal, go_sem, seval]; refine q0 _ ?_; clear q0 Q0; simp only [go_sem])
   refine aops_chunk 1 fun Q0 q0 => ?_
   simp only [↓aops, ↓aop, ↓aWant, ↓aVal, go_sem, seval]
   refine GCalls.at (GVars_calls S.G (h64 hcs) (hl hcs)) (.nil) (dataInts _) (i := 1) (j := 2) (k := 3) rfl rfl rfl (by decide) (by decide) (by decide) (by first | omega | (simp only; omega)) (by first | omega | (simp only; omega)) (by first | omega | (simp only; omega)) ?_
   simp only [putO, Nat.reduceEqDiff, ↓reduceIte]
   try simp only [bS, bA, thenQ, blockQ, noGotoQ]
   refine q0 _ ?_
   clear q0 Q0
   simp only [go_sem]
   simp only [↓aops, ↓aop, ↓aWant, ↓aVal, go_sem, seval]
   refine y0 _ ?_
   try clear y0 Y0
   refine AWp_ret ?_
   try simp only [thenQ, blockQ, noGotoQ, retQ, aRes, tupOf, bS, bA]
   refine ⟨_, enumO 0 (cObs (S)), ⟨(S, ()), ?_, rfl, rfl⟩, Und.data (dataInts _), cUnd (by omega) _, ?_, ?_, by omega⟩
   · exact rfl
   ·
    rw [if_neg (by rw [hcs]; decide)]; exact Le.refl _
   · first | (refine ⟨0, rfl, rfl⟩) | (refine ⟨0, by simp only [cObs, enumO, List.drop_zero, List.drop_succ_cons, Nat.reduceAdd], rfl⟩)
theorem Class_c (S : CS) (hF : FInv S.F) (hc : S.clash = false) (hv : ∀ n k, vfind S.G.V n = some k → 0 ≤ k ∧ k < (S.F.up.length : Int)) (h64 : ∀ q ∈ S.G.V, is64 q.1) (hl : S.G.V.length ≤ 1048576) (v : Int) : CCalls (σ := Unit) 25 [.ptr 0 0, .v (.int .i64 v)] (S) (fun s => FSame S.F s.1.F ∧ s.1 = { S with F := s.1.F }) (fun s => .sl 1 ((clsF S v (sortI (S.G.V.map Prod.fst))).map intC)) := by
  refine ACalls.clean (C := fun r os => ∃ s : CS × Unit, (FSame S.F s.1.F ∧ s.1 = { S with F := s.1.F }) ∧ r = (fun s : Unit => .sl 1 ((clsF S v (sortI (S.G.V.map Prod.fst))).map intC)) s.2 ∧ os = enumO 0 (cObs s.1)) ?_
  refine ACalls_intro Try.func25 (by kernel_rfl) rfl (by rw [Try.ntmps25]; simp) (fun hm => ?_)
  simp only [Try.ntmps25, Try.results25, List.length_cons, List.length_nil, Nat.reduceAdd, Nat.reduceSub, List.replicate_succ, List.replicate_zero, List.cons_append, List.nil_append]
  simp only [cObs, enumO, Nat.reduceAdd]
  iterate 2 (refine AWp_seqK fun Y0 y0 => ?_; refine AWp_region ?_; simp only [↓aops, ↓aop, ↓aWant, ↓aVal, go_sem, seval]; refine y0 _ ?_; (try clear y0 Y0))
  refine AWp_seqK fun Y0 y0 => ?_
  refine AWp_seqK fun Y1 y1 => ?_
  refine AWp_region ?_
  refine aops_chunk 1 fun Q0 q0 => ?_
  simp only [↓aops, ↓aop, ↓aWant, ↓aVal, go_sem, seval]
  refine q0 _ ?_
  clear q0 Q0
  simp only [go_sem]
  refine aops_chunk 1 fun Q0 q0 => ?_
  simp only [↓aops, ↓aop, ↓aWant, ↓aVal, go_sem, seval]
  refine CCalls.at (CVars2_c S (fun _ => h64) (fun _ => by omega)) (.nil) (fun _ => dataInts _) (i0 := 0) (i1 := 1) (i2 := 2) (i3 := 3) (i4 := 4) (i5 := 5) (i6 := 6) (i7 := 7) (by decide) (by simp) ⟨rfl, rfl, rfl, rfl, rfl, rfl, rfl, rfl, trivial⟩ (fun Z9 u9 hZ9 => ?_)
  try dsimp only at hZ9
  simp only [cObsAt, List.zip_cons_cons, List.zip_nil_left, List.zip_nil_right, putsO, putO, Nat.reduceEqDiff, ↓reduceIte]
  obtain rfl : S = Z9 := hZ9.symm
  rw [if_neg (show ¬ (S.clash = true) from by rw [hc]; decide)]
  obtain ⟨L, hL⟩ : ∃ L, L = sortI (S.G.V.map Prod.fst) := ⟨_, rfl⟩
  rw [← hL]
  have hLl : L.length ≤ 1048576 := by (rw [hL, List.length_mergeSort, List.length_map]; exact hl)
  try simp only [bS, bA, thenQ, blockQ, noGotoQ]
  refine q0 _ ?_
  clear q0 Q0
  simp only [go_sem]
  refine aops_chunk 1 fun Q0 q0 => ?_
  simp only [↓aops, ↓aop, ↓aWant, ↓aVal, go_sem, seval]
  refine q0 _ ?_
  clear q0 Q0
  simp only [go_sem]
  simp only [↓aops, ↓aop, ↓aWant, ↓aVal, go_sem, seval]
  refine y1 _ ?_
  try clear y1 Y1
  refine AWp_block ?_
  refine AWp_weak (Weak.tokSlot 5 3 1 rfl) ?_
  simp only [List.set_cons_zero, List.set_cons_succ]
  refine AWp_loopM (σ := FS × Nat) (mB 25 3619) (fun s => FSame S.F s.1 ∧ s.2 ≤ L.length) (fun s => [(5, .osl 8 1 ((clsF S v (L.take s.2)).map intC)), (11, .v (.int .i64 (s.2 : Int)))]) (fun s => [(4, .cells 115 [.own 5 s.1.up.length, .own 6 s.1.rank.length, .v (.int .i64 s.1.sets), .v (.int .i64 s.1.steps)]), (5, .row 3 1 (s.1.up.map nC)), (6, .row 3 1 (s.1.rank.map intC)), (8, .tok 3 1 (clsF S v (L.take s.2)).length)]) (fun s => L.length - s.2) (S.F, 0) (⟨FSame.refl hF, Nat.zero_le _⟩) ?_ (fun s hs => ?_)
  ·
   simp only [maskL, setsL, putsO, putO, mB, List.set_cons_zero, List.set_cons_succ, seval, bL, clsF, List.filter_nil]
   exact Weak.mk (by simp only [go_sem, Le.refl, Le.any, Le.slNil, Int.natCast_add, Int.cast_ofNat_Int, Int.natCast_one]) (fun _ _ h => h) rfl rfl
  simp only [maskL, setsL, putsO, putO, mB, List.set_cons_zero, List.set_cons_succ, seval]
  refine AWp_seqK fun Y1 y1 => ?_
  refine AWp_region ?_
  simp only [↓aops, ↓aop, ↓aWant, ↓aVal, go_sem, seval]
  refine y1 _ ?_
  try clear y1 Y1
  refine AWp_seqK fun Y1 y1 => ?_
  refine AWp_cond rfl (fun hb12 => ?_) (fun hb12 => ?_)
  ·
   have hk : s.2 < L.length := by simpa using hb12
   obtain ⟨w, he⟩ : ∃ w, L[s.2]? = some w := ⟨_, List.getElem?_eq_getElem hk⟩
   have hw : IntKind.i64.wrap ((s.2 : Int) + 1) = (s.2 : Int) + 1 := wrap_in (by omega) (by omega)
   have hrl := clsF_len S v (L.take s.2)
   have hrt : (L.take s.2).length ≤ s.2 := by simp; omega
   have hb1 : ((clsF S v (L.take s.2)).length + 1) * 8 ≤ 140737488355328 := by omega
   have hb2 : (clsF S v (L.take s.2)).length + 1 ≤ maxLen := by simp only [maxLen]; omega
   refine AWp_skip ?_
   try simp only [thenQ, blockQ, noGotoQ]
   refine y1 _ ?_
   try clear y1 Y1
   refine AWp_seqK fun Y1 y1 => ?_
   refine AWp_block ?_
   refine AWp_seqK fun Y2 y2 => ?_
   refine AWp_region ?_
   iterate 2 (refine aops_chunk 1 fun Q0 q0 => ?_; simp only [↓aops, ↓aop, ↓aWant, ↓aVal, go_sem, seval, hk, gM he, intC, hw, hb1, hb2, Int.natCast_add]; refine q0 _ ?_; clear q0 Q0; simp only [go_sem])
   simp only [↓aops, ↓aop, ↓aWant, ↓aVal, go_sem, seval, hk, gM he, intC, hw, hb1, hb2, Int.natCast_add]
   refine y2 _ ?_
   try clear y2 Y2
   refine AWp_seqK fun Y2 y2 => ?_
   refine AWp_region ?_
   iterate 3 (refine aops_chunk 1 fun Q0 q0 => ?_; simp only [↓aops, ↓aop, ↓aWant, ↓aVal, go_sem, seval, hk, gM he, intC, hw, hb1, hb2, Int.natCast_add]; refine q0 _ ?_; clear q0 Q0; simp only [go_sem])
   simp only [↓aops, ↓aop, ↓aWant, ↓aVal, go_sem, seval, hk, gM he, intC, hw, hb1, hb2, Int.natCast_add]
   refine CCalls.at (CSame_c { S with F := s.1 } hs.1.inv (by dsimp only; rw [hs.1.len]; exact hv) v w) (.cons (.v _) (.cons (.v _) .nil)) (fun _ => .v _) (i0 := 0) (i1 := 1) (i2 := 2) (i3 := 3) (i4 := 4) (i5 := 5) (i6 := 6) (i7 := 7) (by decide) (by simp) ⟨rfl, rfl, rfl, rfl, rfl, rfl, rfl, rfl, trivial⟩ (fun S1 r1 hX => ?_)
   try dsimp only at hX
   simp only [cObsAt, List.zip_cons_cons, List.zip_nil_left, List.zip_nil_right, putsO, putO, Nat.reduceEqDiff, ↓reduceIte]
   obtain ⟨F1, rfl⟩ : ∃ F1, S1 = { S with F := F1 } := ⟨S1.F, hX.2.1⟩
   dsimp only at hX
   have hr0 : SameR { S with F := s.1 } v w r1 := hX.2.2
   have hr1 : r1 = sameS S v w := (hr0.fsame (S := S) hs.1 rfl).eq
   have hF1 : FSame S.F F1 := hs.1.trans hX.1
   try simp only [bS, bA, thenQ, blockQ, noGotoQ]
   refine y2 _ ?_
   try clear y2 Y2
   refine AWp_cond rfl (fun hb18 => ?_) (fun hb18 => ?_)
   ·
    have hyes : sameS S v w = true := by rw [← hr1]; exact hb18
    have hst := clsF_yes he hyes
    refine AWp_region ?_
    iterate 2 (refine aops_chunk 1 fun Q0 q0 => ?_; simp only [↓aops, ↓aop, ↓aWant, ↓aVal, go_sem, seval, hk, gM he, intC, hw, hb1, hb2, Int.natCast_add, hst, List.map_append, List.length_append]; refine q0 _ ?_; clear q0 Q0; simp only [go_sem])
    refine aops_chunk 1 fun Q0 q0 => ?_
    simp only [↓aops, ↓aop, ↓aWant, ↓aVal, go_sem, seval, ↓bs1_1, ↓bs1_2, ↓bs1_3, ↓bs1_4, ↓bs1_5, ↓bs1_6, ↓bs1_7, ↓bs1_8, ↓bs1_9, ↓bs1_10, ↓bs1_11, ↓bs1_12, hk, gM he, intC, hw, hb1, hb2, Int.natCast_add, hst, List.map_append, List.length_append]
    refine q0 _ ?_
    clear q0 Q0
    simp only [go_sem]
    refine aops_chunk 1 fun Q0 q0 => ?_
    simp only [↓aops, ↓aop, ↓aWant, ↓aVal, go_sem, seval, hk, gM he, intC, hw, hb1, hb2, Int.natCast_add, hst, List.map_append, List.length_append]
    refine q0 _ ?_
    clear q0 Q0
    simp only [go_sem]
    simp only [↓aops, ↓aop, ↓aWant, ↓aVal, go_sem, seval, hk, gM he, intC, hw, hb1, hb2, Int.natCast_add, hst, List.map_append, List.length_append]
    refine y1 _ ?_
    try clear y1 Y1
    refine AWp_region ?_
    refine aops_chunk 1 fun Q0 q0 => ?_
    simp only [↓aops, ↓aop, ↓aWant, ↓aVal, go_sem, seval, hk, gM he, intC, hw, hb1, hb2, Int.natCast_add, hst, List.map_append, List.length_append]
    refine q0 _ ?_
    clear q0 Q0
    simp only [go_sem]
    simp only [↓aops, ↓aop, ↓aWant, ↓aVal, go_sem, seval, hk, gM he, intC, hw, hb1, hb2, Int.natCast_add, hst, List.map_append, List.length_append]
    refine ⟨(F1, s.2 + 1), ⟨hF1, by simp only; omega⟩, (by simp only; omega), ?_⟩
    simp only [maskL, setsL, putsO, putO, mB, List.set_cons_zero, List.set_cons_succ, seval, hk, gM he, intC, hw, hb1, hb2, Int.natCast_add, Int.natCast_one, Int.cast_ofNat_Int, hst, List.map_append, bL, List.length_append]
    exact Weak.mk (by simp only [go_sem, Le.refl, Le.any, Le.slNil, Int.natCast_add, Int.cast_ofNat_Int, Int.natCast_one]) (fun _ _ h => h) rfl rfl
   ·
    have hno : sameS S v w = false := by rw [← hr1]; simpa using hb18
    have hst := clsF_no he hno
    refine AWp_skip ?_
    try simp only [thenQ, blockQ, noGotoQ]
    refine y1 _ ?_
    try clear y1 Y1
    refine AWp_region ?_
    refine aops_chunk 1 fun Q0 q0 => ?_
    simp only [↓aops, ↓aop, ↓aWant, ↓aVal, go_sem, seval, hk, gM he, intC, hw, hb1, hb2, Int.natCast_add, hst]
    refine q0 _ ?_
    clear q0 Q0
    simp only [go_sem]
    simp only [↓aops, ↓aop, ↓aWant, ↓aVal, go_sem, seval, hk, gM he, intC, hw, hb1, hb2, Int.natCast_add, hst]
    refine ⟨(F1, s.2 + 1), ⟨hF1, by simp only; omega⟩, (by simp only; omega), ?_⟩
    simp only [maskL, setsL, putsO, putO, mB, List.set_cons_zero, List.set_cons_succ, seval, hk, gM he, intC, hw, hb1, hb2, Int.natCast_add, Int.natCast_one, Int.cast_ofNat_Int, hst]
    exact Weak.mk (by simp only [go_sem, Le.refl, Le.any, Le.slNil, Int.natCast_add, Int.cast_ofNat_Int, Int.natCast_one]) (fun _ _ h => h) rfl rfl
  ·
   have hk : s.2 = L.length := by (have h9 := hb12; simp at h9; have := hs.2; omega)
   refine AWp_exit ?_
   simp only [thenQ, blockQ, noGotoQ, bA, Nat.reduceEqDiff, ↓reduceIte]
   refine y0 _ ?_
   try clear y0 Y0
   refine AWp_seqK fun Y0 y0 => ?_
   refine AWp_region ?_
   refine aops_chunk 1 fun Q0 q0 => ?_
   simp only [↓aops, ↓aop, ↓aWant, ↓aVal, go_sem, seval]
   refine q0 _ ?_
   clear q0 Q0
   simp only [go_sem]
   simp only [↓aops, ↓aop, ↓aWant, ↓aVal, go_sem, seval]
   refine y0 _ ?_
   try clear y0 Y0
   refine AWp_ret ?_
   try simp only [thenQ, blockQ, noGotoQ, retQ, aRes, tupOf, bS, bA]
   refine ⟨_, enumO 0 (cObs ({ S with F := s.1 })), ⟨({ S with F := s.1 }, ()), ?_, rfl, rfl⟩, Und.data (dataInts _), cUnd (by omega) _, ?_, ?_, by omega⟩
   · exact ⟨hs.1, rfl⟩
   ·
    rw [hk, List.take_length, hL]
    exact Le.oslL
   · first | (refine ⟨1, rfl, rfl⟩) | (refine ⟨1, by simp only [cObs, enumO, List.drop_zero, List.drop_succ_cons, Nat.reduceAdd], rfl⟩)
end Go.Proofs.Ytjjjckjebkmnjaa
