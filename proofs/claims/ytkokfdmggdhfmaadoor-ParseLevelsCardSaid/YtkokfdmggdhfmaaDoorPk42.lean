/- Texts of the abstract walk, of the contracts and of the plain laws, packed (part 42 of 44): Sg5 Ps1 Sg6 Sg7 Sg8 PsL Ps2 Ps3 Ps4 Ps5 PsM LvL Ps6 Ps7. Conditions: none. -/
import Derived.Test.YtkokfdmggdhfmaaDoorPk41
namespace Go.Proofs.YtkokfdmggdhfmaaDoor
open Go Go.RowKit
set_option maxRecDepth 100000
set_option maxHeartbeats 4000000
set_option linter.unusedSimpArgs false
set_option linter.unnecessarySimpa false
set_option linter.unusedVariables false
attribute [local irreducible] aops dRun
def rC (l : List Tok) (m i e : Int) : List AV := [.sl 4 (l.map Tok.cells), .v (.int .i64 i), .v (.int .i64 m), .v (.int .i64 e)]
def RCalls (f : Nat) (args : List AV) (l : List Tok) (m i e : Int) (R : AV) (j d : Int) : Prop :=
  ACalls Tryd.prog f args [(0, .cells 65 (rC l m i e))] 1 fun r os n => (r = R ∧ os = [(0, .cells 65 (rC l m j d))]) ∧ n = 1
theorem RCalls.at {f : Nat} {args args' : List AV} {l : List Tok} {m i e : Int} {R : AV} {j d : Int} (h : RCalls f args l m i e R j d) {k : Nat} {os' : Os} {nx' : Nat} (hargs : RenL (renOf [k] nx') args args') (hR : Data R)
    (hk : getO os' k = some (.cells 65 (rC l m i e))) (lk : k < nx') {Q' : AV → Os → Nat → Prop} (hq : Q' R (putO os' k (.cells 65 (rC l m j d))) nx') : ACalls Tryd.prog f args' os' nx' Q' := by
  have ren : ∀ i e, RenOs (renOf [k] nx') 0 [.cells 65 (rC l m i e)] [.cells 65 (rC l m i e)] := fun i e => ⟨.cells ⟨.data (Tok.dataSl l), .v _, .v _, .v _, trivial⟩, trivial⟩
  refine ACalls.at (args := args) (obs := [.cells 65 (rC l m i e)]) (obs1 := [.cells 65 (rC l m j d)]) (obs' := [.cells 65 (rC l m i e)]) (obs1' := [.cells 65 (rC l m j d)]) [k] ?_ rfl rfl (by simp) (by simpa using lk) hargs (.data hR) (ren i e) ⟨hk, trivial⟩ (ren j d) hq
  exact h.mono fun r os n ⟨⟨h1, h2⟩, h3⟩ => ⟨h1, h2, h3⟩
theorem rUnd {n : Nat} (h : 1 ≤ n) (l : List Tok) (m i e : Int) : UndOs n [(0, .cells 65 (rC l m i e))] := ⟨by omega, ⟨.data (Tok.dataSl l), .v _ _, .v _ _, .v _ _, trivial⟩, trivial⟩
theorem fail_c (l : List Tok) (m i e : Int) (b : Bool) (c : Int) : RCalls 51 [.ptr 0 0, .v (.bool b), .v (.int .i64 c)] l m (i) (e) (.tup []) (i) (if b = true ∧ e = 0 then c else e) := by
  refine ACalls.clean (C := fun r os' => r = _ ∧ os' = _) ?_
  refine ACalls_intro Tryd.func51 (by kernel_rfl) rfl (by rw [Tryd.ntmps51]; simp) (fun hm => ?_)
  simp only [Tryd.ntmps51, Tryd.results51, List.length_cons, List.length_nil, Nat.reduceAdd, Nat.reduceSub, List.replicate_succ, List.replicate_zero, List.cons_append, List.nil_append]
  refine AWp_seqK fun Y0 y0 => ?_
  refine AWp_region ?_
  iterate 2 (refine aops_chunk 1 fun Q0 q0 => ?_; simp only [↓bO, go_sem, seval, Tok.cells, rC]; refine q0 _ ?_; clear q0 Q0; simp only [go_sem])
  refine aops_case 7 rfl (fun hc7 => ?_) (fun hc7 => ?_)
  ·
   simp only [List.set_cons_zero, List.set_cons_succ]
   have h7 : b = true := by simpa using hc7
   iterate 5 (refine aops_chunk 1 fun Q0 q0 => ?_; simp only [↓bO, go_sem, seval, Tok.cells, rC]; refine q0 _ ?_; clear q0 Q0; simp only [go_sem])
   simp only [↓bO, go_sem, seval, Tok.cells, rC]
   refine y0 _ ?_
   try clear y0 Y0
   refine AWp_cond rfl (fun hb13 => ?_) (fun hb13 => ?_)
   ·
    have h13 : e = 0 := by simpa using hb13
    refine AWp_region ?_
    iterate 4 (refine aops_chunk 1 fun Q0 q0 => ?_; simp only [↓bO, go_sem, seval, Tok.cells, rC]; refine q0 _ ?_; clear q0 Q0; simp only [go_sem])
    simp only [↓bO, go_sem, seval, Tok.cells, rC]
    try simp only [thenQ, blockQ, noGotoQ, retQ, aRes, tupOf, bS, bA]
    rw [if_pos ⟨h7, h13⟩]
    refine ⟨_, _, ⟨rfl, rfl⟩, .data (.tup .nil), rUnd (by omega) _ _ _ _, ?_, ?_, by omega⟩
    · exact Le.refl _
    · first | exact ⟨0, rfl, rfl⟩ | exact ⟨1, rfl, rfl⟩ | exact ⟨2, rfl, rfl⟩ | exact ⟨3, rfl, rfl⟩
   ·
    have h13 : ¬ e = 0 := by simpa using hb13
    refine AWp_skip ?_
    try simp only [thenQ, blockQ, noGotoQ]
    try simp only [thenQ, blockQ, noGotoQ, retQ, aRes, tupOf, bS, bA]
    rw [if_neg fun h => h13 h.2]
    refine ⟨_, _, ⟨rfl, rfl⟩, .data (.tup .nil), rUnd (by omega) _ _ _ _, ?_, ?_, by omega⟩
    · exact Le.refl _
    · first | exact ⟨0, rfl, rfl⟩ | exact ⟨1, rfl, rfl⟩ | exact ⟨2, rfl, rfl⟩ | exact ⟨3, rfl, rfl⟩
  ·
   simp only [List.set_cons_zero, List.set_cons_succ]
   have h7 : ¬ b = true := by simpa using hc7
   iterate 5 (refine aops_chunk 1 fun Q0 q0 => ?_; simp only [↓bO, go_sem, seval, Tok.cells, rC]; refine q0 _ ?_; clear q0 Q0; simp only [go_sem])
   simp only [↓bO, go_sem, seval, Tok.cells, rC]
   refine y0 _ ?_
   try clear y0 Y0
   refine AWp_cond (b := false) (by first | exact rfl | exact congrArg (fun b => AV.v (.bool b)) hb13) (fun h => (by cases h)) (fun _ => ?_)
   refine AWp_skip ?_
   try simp only [thenQ, blockQ, noGotoQ]
   try simp only [thenQ, blockQ, noGotoQ, retQ, aRes, tupOf, bS, bA]
   rw [if_neg fun h => h7 h.1]
   refine ⟨_, _, ⟨rfl, rfl⟩, .data (.tup .nil), rUnd (by omega) _ _ _ _, ?_, ?_, by omega⟩
   · exact Le.refl _
   · first | exact ⟨0, rfl, rfl⟩ | exact ⟨1, rfl, rfl⟩ | exact ⟨2, rfl, rfl⟩ | exact ⟨3, rfl, rfl⟩
theorem sign_c (l : List Tok) (m i e : Int) (k : Int) (s : ByteArray) (hl : l.length ≤ 1048576) : RCalls 52 [.ptr 0 0, .v (.int .i64 k), .v (.string s)] l m (i) (e) (.v (.bool (isT l i k s))) (if isT l i k s = true then i + 1 else i) (e) := by
  refine ACalls.clean (C := fun r os' => r = _ ∧ os' = _) ?_
  refine ACalls_intro Tryd.func52 (by kernel_rfl) rfl (by rw [Tryd.ntmps52]; simp) (fun hm => ?_)
  simp only [Tryd.ntmps52, Tryd.results52, List.length_cons, List.length_nil, Nat.reduceAdd, Nat.reduceSub, List.replicate_succ, List.replicate_zero, List.cons_append, List.nil_append]
  refine AWp_seqK fun Y0 y0 => ?_
  refine AWp_region ?_
  simp only [↓bO, go_sem, seval, Tok.cells, rC]
  refine y0 _ ?_
  try clear y0 Y0
  refine AWp_seqK fun Y0 y0 => ?_
  refine AWp_drawK 47 mixed (by kernel_rfl) fun J0 j0 => ?_
  iterate 6 (simp only [go_sem]; refine dRun_chunk 1 fun Q0 q0 => ?_; simp only [↓dRun, ↓dOp, ↓bO, go_sem, seval, Tok.cells, rC]; refine q0 _ ?_; clear q0 Q0)
  simp only [go_sem]
  refine dRun_case 13 rfl (fun hc13 => ?_) (fun hc13 => ?_)
  ·
   simp only [List.set_cons_zero, List.set_cons_succ]
   have h0 : 0 ≤ i := by simpa using hc13
   iterate 12 (refine dRun_chunk 1 fun Q0 q0 => ?_; simp only [↓dRun, ↓dOp, ↓bO, go_sem, seval, Tok.cells, rC, h0]; refine q0 _ ?_; clear q0 Q0; simp only [go_sem])
   refine dRun_case 25 rfl (fun hc25 => ?_) (fun hc25 => ?_)
   ·
    simp only [List.set_cons_zero, List.set_cons_succ]
    have h1 : i < (l.length : Int) := by simpa using hc25
    obtain ⟨n, rfl⟩ : ∃ n : Nat, i = (n : Int) := ⟨i.toNat, by omega⟩
    have hn : n < l.length := by omega
    obtain ⟨t, ht⟩ : ∃ t, l[n]? = some t := ⟨_, List.getElem?_eq_getElem hn⟩
    have hw : IntKind.i64.wrap ((n : Int) + 1) = (n : Int) + 1 := wrap_in (by omega) (by omega)
    iterate 15 (refine dRun_chunk 1 fun Q0 q0 => ?_; simp only [↓dRun, ↓dOp, ↓bO, go_sem, seval, Tok.cells, rC, h0, hn, gM ht, hw]; refine q0 _ ?_; clear q0 Q0; simp only [go_sem])
    refine dRun_case 40 rfl (fun hc40 => ?_) (fun hc40 => ?_)
    ·
     simp only [List.set_cons_zero, List.set_cons_succ]
     have h2 : t.k = k := by simpa using hc40
     iterate 13 (refine dRun_chunk 1 fun Q0 q0 => ?_; simp only [↓dRun, ↓dOp, ↓bO, go_sem, seval, Tok.cells, rC, h0, hn, gM ht, hw]; refine q0 _ ?_; clear q0 Q0; simp only [go_sem])
     simp only [↓dRun, ↓dOp, ↓bO, go_sem, seval, Tok.cells, rC, h0, hn, gM ht, hw]
     refine j0 _ ?_
     clear j0 J0
     simp only [go_sem]
     simp only [↓bO, go_sem, seval, Tok.cells, rC, h0, hn, gM ht, hw]
     refine y0 _ ?_
     try clear y0 Y0
     refine AWp_seqK fun Y0 y0 => ?_
     refine AWp_seqK fun Y1 y1 => ?_
     refine AWp_region ?_
     simp only [↓bO, go_sem, seval, Tok.cells, rC, h0, hn, gM ht, hw]
     refine y1 _ ?_
     try clear y1 Y1
     refine AWp_cond rfl (fun hb55 => ?_) (fun hb55 => ?_)
     ·
      have h3 : eqS t.s s = true := hb55
      refine AWp_region ?_
      iterate 7 (refine aops_chunk 1 fun Q0 q0 => ?_; simp only [↓bO, go_sem, seval, Tok.cells, rC, h0, hn, gM ht, hw]; refine q0 _ ?_; clear q0 Q0; simp only [go_sem])
      simp only [↓bO, go_sem, seval, Tok.cells, rC, h0, hn, gM ht, hw]
      refine y0 _ ?_
      try clear y0 Y0
      refine AWp_seqK fun Y0 y0 => ?_
      refine AWp_region ?_
      refine aops_chunk 1 fun Q0 q0 => ?_
      simp only [↓bO, go_sem, seval, Tok.cells, rC, h0, hn, gM ht, hw]
      refine q0 _ ?_
      clear q0 Q0
      simp only [go_sem]
      simp only [↓bO, go_sem, seval, Tok.cells, rC, h0, hn, gM ht, hw]
      refine y0 _ ?_
      try clear y0 Y0
      refine AWp_ret ?_
      try simp only [thenQ, blockQ, noGotoQ, retQ, aRes, tupOf, bS, bA]
      rw [(isT_yes (by omega) (by simpa using ht) h2).trans h3, if_pos rfl]
      refine ⟨_, _, ⟨rfl, rfl⟩, .v _ _, rUnd (by omega) _ _ _ _, ?_, ?_, by omega⟩
      · first | exact Le.refl _ | exact Le.of_eq (congrArg (fun b => AV.v (.bool b)) h3)
      · first | exact ⟨0, rfl, rfl⟩ | exact ⟨1, rfl, rfl⟩ | exact ⟨2, rfl, rfl⟩ | exact ⟨3, rfl, rfl⟩
     ·
      have h3 : eqS t.s s = false := hb55
      refine AWp_skip ?_
      try simp only [thenQ, blockQ, noGotoQ]
      refine y0 _ ?_
      try clear y0 Y0
      refine AWp_seqK fun Y0 y0 => ?_
      refine AWp_region ?_
      refine aops_chunk 1 fun Q0 q0 => ?_
      simp only [↓bO, go_sem, seval, Tok.cells, rC, h0, hn, gM ht, hw]
      refine q0 _ ?_
      clear q0 Q0
      simp only [go_sem]
      simp only [↓bO, go_sem, seval, Tok.cells, rC, h0, hn, gM ht, hw]
      refine y0 _ ?_
      try clear y0 Y0
      refine AWp_ret ?_
      try simp only [thenQ, blockQ, noGotoQ, retQ, aRes, tupOf, bS, bA]
      have hr : isT l _ k s = false := (isT_yes (by omega) (by simpa using ht) h2).trans h3
      rw [hr, if_neg (by simp)]
      refine ⟨_, _, ⟨rfl, rfl⟩, .v _ _, rUnd (by omega) _ _ _ _, ?_, ?_, by omega⟩
      · first | exact Le.refl _ | exact Le.of_eq (congrArg (fun b => AV.v (.bool b)) h3)
      · first | exact ⟨0, rfl, rfl⟩ | exact ⟨1, rfl, rfl⟩ | exact ⟨2, rfl, rfl⟩ | exact ⟨3, rfl, rfl⟩
    ·
     simp only [List.set_cons_zero, List.set_cons_succ]
     have h2 : ¬ t.k = k := by simpa using hc40
     iterate 13 (refine dRun_chunk 1 fun Q0 q0 => ?_; simp only [↓dRun, ↓dOp, ↓bO, go_sem, seval, Tok.cells, rC, h0, hn, gM ht, hw]; refine q0 _ ?_; clear q0 Q0; simp only [go_sem])
     simp only [↓dRun, ↓dOp, ↓bO, go_sem, seval, Tok.cells, rC, h0, hn, gM ht, hw]
     refine j0 _ ?_
     clear j0 J0
     simp only [go_sem]
     simp only [↓bO, go_sem, seval, Tok.cells, rC, h0, hn, gM ht, hw]
     refine y0 _ ?_
     try clear y0 Y0
     refine AWp_seqK fun Y0 y0 => ?_
     refine AWp_seqK fun Y1 y1 => ?_
     refine AWp_region ?_
     simp only [↓bO, go_sem, seval, Tok.cells, rC, h0, hn, gM ht, hw]
     refine y1 _ ?_
     try clear y1 Y1
     refine AWp_cond (b := false) (by first | exact rfl | exact congrArg (fun b => AV.v (.bool b)) hb55) (fun h => (by cases h)) (fun _ => ?_)
     refine AWp_skip ?_
     try simp only [thenQ, blockQ, noGotoQ]
     refine y0 _ ?_
     try clear y0 Y0
     refine AWp_seqK fun Y0 y0 => ?_
     refine AWp_region ?_
     refine aops_chunk 1 fun Q0 q0 => ?_
     simp only [↓bO, go_sem, seval, Tok.cells, rC, h0, hn, gM ht, hw]
     refine q0 _ ?_
     clear q0 Q0
     simp only [go_sem]
     simp only [↓bO, go_sem, seval, Tok.cells, rC, h0, hn, gM ht, hw]
     refine y0 _ ?_
     try clear y0 Y0
     refine AWp_ret ?_
     try simp only [thenQ, blockQ, noGotoQ, retQ, aRes, tupOf, bS, bA]
     have hr : isT l _ k s = false := isT_no (by omega) (by simpa using ht) h2
     rw [hr, if_neg (by simp)]
     refine ⟨_, _, ⟨rfl, rfl⟩, .v _ _, rUnd (by omega) _ _ _ _, ?_, ?_, by omega⟩
     · first | exact Le.refl _ | exact Le.of_eq (congrArg (fun b => AV.v (.bool b)) h3)
     · first | exact ⟨0, rfl, rfl⟩ | exact ⟨1, rfl, rfl⟩ | exact ⟨2, rfl, rfl⟩ | exact ⟨3, rfl, rfl⟩
   ·
    simp only [List.set_cons_zero, List.set_cons_succ]
    have h1 : ¬ i < (l.length : Int) := by simpa using hc25
    iterate 28 (refine dRun_chunk 1 fun Q0 q0 => ?_; simp only [↓dRun, ↓dOp, ↓bO, go_sem, seval, Tok.cells, rC, h0]; refine q0 _ ?_; clear q0 Q0; simp only [go_sem])
    simp only [↓dRun, ↓dOp, ↓bO, go_sem, seval, Tok.cells, rC, h0]
    refine j0 _ ?_
    clear j0 J0
    simp only [go_sem]
    simp only [↓bO, go_sem, seval, Tok.cells, rC, h0]
    refine y0 _ ?_
    try clear y0 Y0
    refine AWp_seqK fun Y0 y0 => ?_
    refine AWp_seqK fun Y1 y1 => ?_
    refine AWp_region ?_
    simp only [↓bO, go_sem, seval, Tok.cells, rC, h0]
    refine y1 _ ?_
    try clear y1 Y1
    refine AWp_cond (b := false) (by first | exact rfl | exact congrArg (fun b => AV.v (.bool b)) hb55) (fun h => (by cases h)) (fun _ => ?_)
    refine AWp_skip ?_
    try simp only [thenQ, blockQ, noGotoQ]
    refine y0 _ ?_
    try clear y0 Y0
    refine AWp_seqK fun Y0 y0 => ?_
    refine AWp_region ?_
    refine aops_chunk 1 fun Q0 q0 => ?_
    simp only [↓bO, go_sem, seval, Tok.cells, rC, h0]
    refine q0 _ ?_
    clear q0 Q0
    simp only [go_sem]
    simp only [↓bO, go_sem, seval, Tok.cells, rC, h0]
    refine y0 _ ?_
    try clear y0 Y0
    refine AWp_ret ?_
    try simp only [thenQ, blockQ, noGotoQ, retQ, aRes, tupOf, bS, bA]
    have hr : isT l _ k s = false := isT_out fun h => h1 h.2
    rw [hr, if_neg (by simp)]
    refine ⟨_, _, ⟨rfl, rfl⟩, .v _ _, rUnd (by omega) _ _ _ _, ?_, ?_, by omega⟩
    · first | exact Le.refl _ | exact Le.of_eq (congrArg (fun b => AV.v (.bool b)) h3)
    · first | exact ⟨0, rfl, rfl⟩ | exact ⟨1, rfl, rfl⟩ | exact ⟨2, rfl, rfl⟩ | exact ⟨3, rfl, rfl⟩
  ·
   simp only [List.set_cons_zero, List.set_cons_succ]
   have h0 : ¬ 0 ≤ i := by simpa using hc13
   iterate 40 (refine dRun_chunk 1 fun Q0 q0 => ?_; simp only [↓dRun, ↓dOp, ↓bO, go_sem, seval, Tok.cells, rC]; refine q0 _ ?_; clear q0 Q0; simp only [go_sem])
   simp only [↓dRun, ↓dOp, ↓bO, go_sem, seval, Tok.cells, rC]
   refine j0 _ ?_
   clear j0 J0
   simp only [go_sem]
   simp only [↓bO, go_sem, seval, Tok.cells, rC]
   refine y0 _ ?_
   try clear y0 Y0
   refine AWp_seqK fun Y0 y0 => ?_
   refine AWp_seqK fun Y1 y1 => ?_
   refine AWp_region ?_
   simp only [↓bO, go_sem, seval, Tok.cells, rC]
   refine y1 _ ?_
   try clear y1 Y1
   refine AWp_cond (b := false) (by first | exact rfl | exact congrArg (fun b => AV.v (.bool b)) hb55) (fun h => (by cases h)) (fun _ => ?_)
   refine AWp_skip ?_
   try simp only [thenQ, blockQ, noGotoQ]
   refine y0 _ ?_
   try clear y0 Y0
   refine AWp_seqK fun Y0 y0 => ?_
   refine AWp_region ?_
   refine aops_chunk 1 fun Q0 q0 => ?_
   simp only [↓bO, go_sem, seval, Tok.cells, rC]
   refine q0 _ ?_
   clear q0 Q0
   simp only [go_sem]
   simp only [↓bO, go_sem, seval, Tok.cells, rC]
   refine y0 _ ?_
   try clear y0 Y0
   refine AWp_ret ?_
   try simp only [thenQ, blockQ, noGotoQ, retQ, aRes, tupOf, bS, bA]
   have hr : isT l _ k s = false := isT_out fun h => h0 h.1
   rw [hr, if_neg (by simp)]
   refine ⟨_, _, ⟨rfl, rfl⟩, .v _ _, rUnd (by omega) _ _ _ _, ?_, ?_, by omega⟩
   · first | exact Le.refl _ | exact Le.of_eq (congrArg (fun b => AV.v (.bool b)) h3)
   · first | exact ⟨0, rfl, rfl⟩ | exact ⟨1, rfl, rfl⟩ | exact ⟨2, rfl, rfl⟩ | exact ⟨3, rfl, rfl⟩
def WholeOk (l : List Tok) (m : Int) (g : Nat) : Prop := ∀ i lv : Int, lft l i < g → -1000000 ≤ lv → lv + lft l i ≤ 1000000 →
  RCalls 26 [.ptr 0 0, .v (.int .i64 lv)] l m i 0 (.agg (rdP l m g none i lv).1.cells) (rdP l m g none i lv).2.1 (rdP l m g none i lv).2.2
theorem list_c (l : List Tok) (m : Int) (f : Nat) (hl : l.length ≤ 1048576) (ih : ∀ g, g ≤ f → WholeOk l m g) (i lv : Int) (hi : lft l i < f) (hlv : -1000000 ≤ lv) (hlv2 : lv + lft l i ≤ 1000000) : RCalls 53 [.ptr 0 0, .v (.int .i64 lv), .mth 26 [.ptr 0 0]] l m i 0 (.agg (lsP l m f i lv).1.cells) (lsP l m f i lv).2.1 (lsP l m f i lv).2.2 := by
  refine ACalls.clean (C := fun r os' => r = _ ∧ os' = _) ?_
  refine ACalls_intro Tryd.func53 (by kernel_rfl) rfl (by rw [Tryd.ntmps53]; simp) (fun hm => ?_)
  simp only [Tryd.ntmps53, Tryd.results53, List.length_cons, List.length_nil, Nat.reduceAdd, Nat.reduceSub, List.replicate_succ, List.replicate_zero, List.cons_append, List.nil_append]
  refine AWp_seqK fun Y0 y0 => ?_
  refine AWp_region ?_
  simp only [↓bO, go_sem, seval, Tok.cells, rC]
  refine y0 _ ?_
  try clear y0 Y0
  refine AWp_scope ?_
  refine AWp_seqK fun Y0 y0 => ?_
  refine AWp_midK 3 [_] [_] rfl fun Q0 q0 => ?_
  iterate 2 (simp only [go_sem]; refine aops_chunk 1 fun Q0 q0 => ?_; simp only [↓bO, go_sem, seval, Tok.cells, rC]; refine q0 _ ?_; clear q0 Q0)
  simp only [go_sem]
  simp only [↓bO, go_sem, seval, Tok.cells, rC]
  refine RCalls.at (k := 0) (ih f (Nat.le_refl f) i lv hi hlv hlv2) ?_ (Ty.dataAgg _) rfl (by first | omega | (simp only; omega)) ?_
  · exact ⟨.ptr rfl, .v _, trivial⟩
  simp only [putO, Nat.reduceEqDiff, ↓reduceIte]
  try simp only [bS, bA, thenQ, blockQ, noGotoQ]
  refine q0 _ ?_
  clear q0 Q0
  refine MidAt_lit ei23 (by decide) rfl (by decide) (by intro p hp; simp at hp; subst hp; exact ⟨rfl, Ty.cells_len _⟩) ?_
  simp only [putO, bS, bA, tyX, Tok.cells, List.length_map, rC]
  simp only [↓bO, go_sem, seval, Tok.cells, rC]
  refine y0 _ ?_
  try clear y0 Y0
  refine AWp_seqK fun Y0 y0 => ?_
  refine AWp_label ?_
  try simp only [thenQ, blockQ, noGotoQ]
  refine y0 _ ?_
  try clear y0 Y0
  refine AWp_seqK fun Y0 y0 => ?_
  refine AWp_block ?_
  refine AWp_loopM (σ := LS) (mB 55 199) (fun s => s.ok l m f lv i (lsP l m f i lv)) (fun s => [(7, .osl 2 3 (s.ps.map Ty.cells))]) (fun s => [(2, .tok 25 3 s.ps.length), (0, .cells 65 (rC l m s.i s.e))]) (fun s => if s.e = 0 then s.f + 1 else 0) ⟨f, [(rdP l m f none i lv).1], (rdP l m f none i lv).2.1, (rdP l m f none i lv).2.2⟩ (LS.start l m f i lv hi) ?_ (fun s hs => ?_)
  ·
   try simp only [maskL, setsL, putsO, putO, mB, List.set_cons_zero, List.set_cons_succ, seval, bL]
   exact Weak.mk (by simp only [go_sem, Le.refl, Le.any, Le.slNil, Int.natCast_add, Int.cast_ofNat_Int, Int.natCast_one]) (fun _ _ h => h) rfl rfl
  simp only [maskL, setsL, putsO, putO, mB, List.set_cons_zero, List.set_cons_succ, seval]
  refine AWp_seqK fun Y1 y1 => ?_
  refine AWp_seqK fun Y2 y2 => ?_
  refine AWp_region ?_
  iterate 4 (refine aops_chunk 1 fun Q0 q0 => ?_; simp only [↓bO, go_sem, seval, Tok.cells, rC, List.map_append, List.length_append]; refine q0 _ ?_; clear q0 Q0; simp only [go_sem])
  simp only [↓bO, go_sem, seval, Tok.cells, rC, List.map_append, List.length_append]
  refine y2 _ ?_
  try clear y2 Y2
  refine AWp_cond rfl (fun hb17 => ?_) (fun hb17 => ?_)
  ·
   have he : s.e = 0 := by simpa using hb17
   obtain ⟨g, hg, hgf, hlf⟩ := hs.fuel he
   have h8 := hs.2.1
   refine AWp_skip ?_
   try simp only [thenQ, blockQ, noGotoQ]
   refine y1 _ ?_
   try clear y1 Y1
   refine AWp_block ?_
   refine AWp_seqK fun Y1 y1 => ?_
   refine AWp_region ?_
   iterate 4 (refine aops_chunk 1 fun Q0 q0 => ?_; simp only [↓bO, go_sem, seval, Tok.cells, rC, List.map_append, List.length_append, he]; refine q0 _ ?_; clear q0 Q0; simp only [go_sem])
   simp only [↓bO, go_sem, seval, Tok.cells, rC, List.map_append, List.length_append, he]
   refine y1 _ ?_
   try clear y1 Y1
   refine AWp_block ?_
   refine AWp_seqK fun Y1 y1 => ?_
   refine AWp_region ?_
   refine aops_chunk 1 fun Q0 q0 => ?_
   simp only [↓bO, go_sem, seval, Tok.cells, rC, List.map_append, List.length_append, he]
   refine q0 _ ?_
   clear q0 Q0
   simp only [go_sem]
   refine aops_chunk 1 fun Q0 q0 => ?_
   simp only [↓bO, go_sem, seval, Tok.cells, rC, List.map_append, List.length_append, he]
   refine RCalls.at (k := 0) (sign_c l m s.i 0 4 bClose hl) ?_ (.v _) rfl (by first | omega | (simp only; omega)) ?_
   · exact ⟨.ptr rfl, .v _, .v _, trivial⟩
   simp only [putO, Nat.reduceEqDiff, ↓reduceIte]
   try simp only [bS, bA, thenQ, blockQ, noGotoQ]
   refine q0 _ ?_
   clear q0 Q0
   simp only [go_sem]
   simp only [↓bO, go_sem, seval, Tok.cells, rC, List.map_append, List.length_append, he]
   refine y1 _ ?_
   try clear y1 Y1
   refine AWp_cond rfl (fun hb28 => ?_) (fun hb28 => ?_)
   ·
    have h1 : isT l s.i 4 bClose = true := hb28
    simp only [h1, if_true]
    refine AWp_exit ?_
    simp only [thenQ, blockQ, noGotoQ, bA, Nat.reduceEqDiff, ↓reduceIte]
    refine y0 _ ?_
    try clear y0 Y0
    refine AWp_seqK fun Y0 y0 => ?_
    refine AWp_seqK fun Y1 y1 => ?_
    refine AWp_region ?_
    iterate 2 (refine aops_chunk 1 fun Q0 q0 => ?_; simp only [↓bO, go_sem, seval, Tok.cells, rC, he]; refine q0 _ ?_; clear q0 Q0; simp only [go_sem])
    simp only [↓bO, go_sem, seval, Tok.cells, rC, he]
    refine y1 _ ?_
    try clear y1 Y1
    refine AWp_cond rfl (fun hb49 => ?_) (fun hb49 => ?_)
    ·
     obtain ⟨t1, hps, htp⟩ := tupP_one (ps := s.ps) (by have h9 := hb49; simp at h9; omega)
     simp only [hps, List.map_cons, List.map_nil]
     refine AWp_seqK fun Y1 y1 => ?_
     refine AWp_region ?_
     iterate 3 (refine aops_chunk 1 fun Q0 q0 => ?_; simp only [↓bO, go_sem, seval, Tok.cells, rC, he]; refine q0 _ ?_; clear q0 Q0; simp only [go_sem])
     simp only [↓bO, go_sem, seval, Tok.cells, rC, he]
     refine y1 _ ?_
     try clear y1 Y1
     refine AWp_ret ?_
     try simp only [thenQ, blockQ, noGotoQ, retQ, aRes, tupOf, bS, bA, aLoad, getO, pack, bL, Nat.reduceAdd, Nat.reduceLeDiff, Nat.reduceEqDiff, ↓reduceIte, ti25, tyX, Tok.cells, List.length_map, rC, he]
     rw [hs.close he hg h1]
     refine ⟨_, _, ⟨rfl, rfl⟩, .data (Ty.dataAgg _), rUnd (by omega) _ _ _ _, ?_, ?_, by omega⟩
     · simp only [htp]; exact Le.refl _
     · exact ⟨2, rfl, rfl⟩
    ·
     have hln : ¬ s.ps.length = 1 := by (have h9 := hb49; simp at h9; omega)
     refine AWp_skip ?_
     try simp only [thenQ, blockQ, noGotoQ]
     refine y0 _ ?_
     try clear y0 Y0
     refine AWp_seqK fun Y0 y0 => ?_
     refine AWp_region ?_
     iterate 2 (refine aops_chunk 1 fun Q0 q0 => ?_; simp only [↓bO, go_sem, seval, Tok.cells, rC, he]; refine q0 _ ?_; clear q0 Q0; simp only [go_sem])
     simp only [↓bO, go_sem, seval, Tok.cells, rC, he]
     refine y0 _ ?_
     try clear y0 Y0
     refine AWp_ret ?_
     try simp only [thenQ, blockQ, noGotoQ, retQ, aRes, tupOf, bS, bA, aLoad, getO, pack, bL, Nat.reduceAdd, Nat.reduceLeDiff, Nat.reduceEqDiff, ↓reduceIte, ti25, tyX, Tok.cells, List.length_map, rC, he]
     rw [hs.close he hg h1]
     refine ⟨_, _, ⟨rfl, rfl⟩, .data (Ty.dataAgg _), rUnd (by omega) _ _ _ _, ?_, ?_, by omega⟩
     · simp only [tupP_more hln]; rw [Ty.cells_eq]; exact Le.agg ⟨.refl _, .refl _, Le.osl _ _ _, trivial⟩
     · exact ⟨2, rfl, rfl⟩
   ·
    have h1 : isT l s.i 4 bClose = false := hb28
    simp only [h1, Bool.false_eq_true, if_false]
    refine AWp_seqK fun Y1 y1 => ?_
    refine AWp_region ?_
    refine aops_chunk 1 fun Q0 q0 => ?_
    simp only [↓bO, go_sem, seval, Tok.cells, rC, List.map_append, List.length_append, he]
    refine q0 _ ?_
    clear q0 Q0
    simp only [go_sem]
    refine aops_chunk 1 fun Q0 q0 => ?_
    simp only [↓bO, go_sem, seval, Tok.cells, rC, List.map_append, List.length_append, he]
    refine RCalls.at (k := 0) (sign_c l m s.i 0 4 bStar hl) ?_ (.v _) rfl (by first | omega | (simp only; omega)) ?_
    · exact ⟨.ptr rfl, .v _, .v _, trivial⟩
    simp only [putO, Nat.reduceEqDiff, ↓reduceIte]
    try simp only [bS, bA, thenQ, blockQ, noGotoQ]
    refine q0 _ ?_
    clear q0 Q0
    simp only [go_sem]
    refine aops_chunk 1 fun Q0 q0 => ?_
    simp only [↓bO, go_sem, seval, Tok.cells, rC, List.map_append, List.length_append, he]
    refine q0 _ ?_
    clear q0 Q0
    simp only [go_sem]
    simp only [↓bO, go_sem, seval, Tok.cells, rC, List.map_append, List.length_append, he]
    refine y1 _ ?_
    try clear y1 Y1
    refine AWp_cond rfl (fun hb31 => ?_) (fun hb31 => ?_)
    ·
     have h2 : isT l s.i 4 bStar = false := by simpa using hb31
     simp only [h2, Bool.false_eq_true, if_false]
     refine AWp_region ?_
     refine aops_chunk 1 fun Q0 q0 => ?_
     simp only [↓bO, go_sem, seval, Tok.cells, rC, List.map_append, List.length_append, he]
     refine q0 _ ?_
     clear q0 Q0
     simp only [go_sem]
     simp only [↓bO, go_sem, seval, Tok.cells, rC, List.map_append, List.length_append, he]
     refine RCalls.at (k := 0) (fail_c l m s.i 0 true 3) ?_ (.tup .nil) rfl (by first | omega | (simp only; omega)) ?_
     · exact ⟨.ptr rfl, .v _, .v _, trivial⟩
     simp only [putO, Nat.reduceEqDiff, ↓reduceIte]
     rw [if_pos (by simp)]
     try simp only [bS, bA, thenQ, blockQ, noGotoQ]
     refine ⟨⟨s.f, s.ps, s.i, 3⟩, hs.form he hg h1 h2, by (simp only [he, if_true]; rw [if_neg (by decide)]; omega), ?_⟩
     try simp only [maskL, setsL, putsO, putO, mB, List.set_cons_zero, List.set_cons_succ, seval, List.map_append, bL, List.length_append, he]
     exact Weak.mk (by simp only [go_sem, Le.refl, Le.any, Le.slNil, Int.natCast_add, Int.cast_ofNat_Int, Int.natCast_one]) (fun _ _ h => h) rfl rfl
    ·
     have h2 : isT l s.i 4 bStar = true := by simpa using hb31
     simp only [h2, if_true]
     refine AWp_seqK fun Y1 y1 => ?_
     refine AWp_region ?_
     iterate 3 (refine aops_chunk 1 fun Q0 q0 => ?_; simp only [↓bO, go_sem, seval, Tok.cells, rC, List.map_append, List.length_append, he]; refine q0 _ ?_; clear q0 Q0; simp only [go_sem])
     simp only [↓bO, go_sem, seval, Tok.cells, rC, List.map_append, List.length_append, he]
     refine y1 _ ?_
     try clear y1 Y1
     refine AWp_cond rfl (fun hb37 => ?_) (fun hb37 => ?_)
     ·
      have h3 : s.ps.length = 8 := by (have h9 := hb37; simp at h9; omega)
      refine AWp_seqK fun Y1 y1 => ?_
      refine AWp_region ?_
      iterate 4 (refine aops_chunk 1 fun Q0 q0 => ?_; simp only [↓bO, go_sem, seval, Tok.cells, rC, List.map_append, List.length_append, he]; refine q0 _ ?_; clear q0 Q0; simp only [go_sem])
      simp only [↓bO, go_sem, seval, Tok.cells, rC, List.map_append, List.length_append, he]
      refine y1 _ ?_
      try clear y1 Y1
      refine AWp_region ?_
      refine aops_chunk 1 fun Q0 q0 => ?_
      simp only [↓bO, go_sem, seval, Tok.cells, rC, List.map_append, List.length_append, he]
      refine q0 _ ?_
      clear q0 Q0
      simp only [go_sem]
      simp only [↓bO, go_sem, seval, Tok.cells, rC, List.map_append, List.length_append, he]
      refine RCalls.at (k := 0) (fail_c l m s.i 0 true 6) ?_ (.tup .nil) rfl (by first | omega | (simp only; omega)) ?_
      · exact ⟨.ptr rfl, .v _, .v _, trivial⟩
      simp only [putO, Nat.reduceEqDiff, ↓reduceIte]
      rw [if_pos (by simp)]
      try simp only [bS, bA, thenQ, blockQ, noGotoQ]
      refine ⟨⟨s.f, s.ps, s.i, 6⟩, hs.many he hg h1 h2 h3, by (simp only [he, if_true]; rw [if_neg (by decide)]; omega), ?_⟩
      try simp only [maskL, setsL, putsO, putO, mB, List.set_cons_zero, List.set_cons_succ, seval, List.map_append, bL, List.length_append, he]
      exact Weak.mk (by simp only [go_sem, Le.refl, Le.any, Le.slNil, Int.natCast_add, Int.cast_ofNat_Int, Int.natCast_one]) (fun _ _ h => h) rfl rfl
     ·
      have h3 : ¬ s.ps.length = 8 := by (have h9 := hb37; simp at h9; omega)
      have hb1 : (s.ps.length + 1) * 40 ≤ 140737488355328 := by omega
      have hb2 : s.ps.length + 1 ≤ maxLen := by (simp only [maxLen]; omega)
      refine AWp_region ?_
      iterate 3 (refine aops_chunk 1 fun Q0 q0 => ?_; simp only [↓bO, go_sem, seval, Tok.cells, rC, List.map_append, List.length_append, he, hb1, hb2]; refine q0 _ ?_; clear q0 Q0; simp only [go_sem])
      refine aops_chunk 1 fun Q0 q0 => ?_
      simp only [↓bO, go_sem, seval, Tok.cells, rC, List.map_append, List.length_append, he, hb1, hb2]
      refine RCalls.at (k := 0) (ih g (by omega) (s.i + 1) lv (by have := lft_next h2; omega) hlv (by have := lft_next h2; have := lft_le (l := l) hs.2.2.1; omega)) ?_ (Ty.dataAgg _) rfl (by first | omega | (simp only; omega)) ?_
      · exact ⟨.ptr rfl, .v _, trivial⟩
      simp only [putO, Nat.reduceEqDiff, ↓reduceIte]
      try simp only [bS, bA, thenQ, blockQ, noGotoQ]
      refine q0 _ ?_
      clear q0 Q0
      simp only [go_sem]
      refine aops_chunk 1 fun Q0 q0 => ?_
      simp only [↓bO, go_sem, seval, ↓bs1_1, ↓bs1_2, ↓bs1_3, ↓bs1_4, ↓bs1_5, ↓bs1_6, ↓bs1_7, ↓bs1_8, ↓bs1_9, ↓bs1_10, ↓bs1_11, ↓bs1_12, Tok.cells, rC, List.map_append, List.length_append, he, hb1, hb2]
      refine q0 _ ?_
      clear q0 Q0
      simp only [go_sem]
      refine aops_chunk 1 fun Q0 q0 => ?_
      simp only [↓bO, go_sem, seval, Tok.cells, rC, List.map_append, List.length_append, he, hb1, hb2]
      refine q0 _ ?_
      clear q0 Q0
      simp only [go_sem]
      simp only [↓bO, go_sem, seval, Tok.cells, rC, List.map_append, List.length_append, he, hb1, hb2]
      refine ⟨⟨g, s.ps ++ [(rdP l m g none (s.i + 1) lv).1], (rdP l m g none (s.i + 1) lv).2.1, (rdP l m g none (s.i + 1) lv).2.2⟩, hs.next he hg h1 h2 h3, by (simp only [he, if_true]; split <;> omega), ?_⟩
      try simp only [maskL, setsL, putsO, putO, mB, List.set_cons_zero, List.set_cons_succ, seval, List.map_append, bL, List.length_append, he, hb1, hb2]
      exact Weak.mk (by simp only [go_sem, Le.refl, Le.any, Le.slNil, Int.natCast_add, Int.cast_ofNat_Int, Int.natCast_one]) (fun _ _ h => h) rfl rfl
  ·
   have he : ¬ s.e = 0 := by simpa using hb17
   refine AWp_exit ?_
   simp only [thenQ, blockQ, noGotoQ, bA, Nat.reduceEqDiff, ↓reduceIte]
   refine y0 _ ?_
   try clear y0 Y0
   refine AWp_seqK fun Y0 y0 => ?_
   refine AWp_seqK fun Y1 y1 => ?_
   refine AWp_region ?_
   iterate 2 (refine aops_chunk 1 fun Q0 q0 => ?_; simp only [↓bO, go_sem, seval, Tok.cells, rC]; refine q0 _ ?_; clear q0 Q0; simp only [go_sem])
   simp only [↓bO, go_sem, seval, Tok.cells, rC]
   refine y1 _ ?_
   try clear y1 Y1
   refine AWp_cond rfl (fun hb49 => ?_) (fun hb49 => ?_)
   ·
    obtain ⟨t1, hps, htp⟩ := tupP_one (ps := s.ps) (by have h9 := hb49; simp at h9; omega)
    simp only [hps, List.map_cons, List.map_nil]
    refine AWp_seqK fun Y1 y1 => ?_
    refine AWp_region ?_
    iterate 3 (refine aops_chunk 1 fun Q0 q0 => ?_; simp only [↓bO, go_sem, seval, Tok.cells, rC]; refine q0 _ ?_; clear q0 Q0; simp only [go_sem])
    simp only [↓bO, go_sem, seval, Tok.cells, rC]
    refine y1 _ ?_
    try clear y1 Y1
    refine AWp_ret ?_
    try simp only [thenQ, blockQ, noGotoQ, retQ, aRes, tupOf, bS, bA, aLoad, getO, pack, bL, Nat.reduceAdd, Nat.reduceLeDiff, Nat.reduceEqDiff, ↓reduceIte, ti25, tyX, Tok.cells, List.length_map, rC]
    rw [hs.stop he]
    refine ⟨_, _, ⟨rfl, rfl⟩, .data (Ty.dataAgg _), rUnd (by omega) _ _ _ _, ?_, ?_, by omega⟩
    · simp only [htp]; exact Le.refl _
    · exact ⟨2, rfl, rfl⟩
   ·
    have hln : ¬ s.ps.length = 1 := by (have h9 := hb49; simp at h9; omega)
    refine AWp_skip ?_
    try simp only [thenQ, blockQ, noGotoQ]
    refine y0 _ ?_
    try clear y0 Y0
    refine AWp_seqK fun Y0 y0 => ?_
    refine AWp_region ?_
    iterate 2 (refine aops_chunk 1 fun Q0 q0 => ?_; simp only [↓bO, go_sem, seval, Tok.cells, rC]; refine q0 _ ?_; clear q0 Q0; simp only [go_sem])
    simp only [↓bO, go_sem, seval, Tok.cells, rC]
    refine y0 _ ?_
    try clear y0 Y0
    refine AWp_ret ?_
    try simp only [thenQ, blockQ, noGotoQ, retQ, aRes, tupOf, bS, bA, aLoad, getO, pack, bL, Nat.reduceAdd, Nat.reduceLeDiff, Nat.reduceEqDiff, ↓reduceIte, ti25, tyX, Tok.cells, List.length_map, rC]
    rw [hs.stop he]
    refine ⟨_, _, ⟨rfl, rfl⟩, .data (Ty.dataAgg _), rUnd (by omega) _ _ _ _, ?_, ?_, by omega⟩
    · simp only [tupP_more hln]; rw [Ty.cells_eq]; exact Le.agg ⟨.refl _, .refl _, Le.osl _ _ _, trivial⟩
    · exact ⟨2, rfl, rfl⟩
def qC (l : List Tok) (i : Nat) (m e : Int) : List AV := [.sl 4 (l.map Tok.cells), .v (.int .i64 (i : Int)), .v (.int .i64 m), .v (.int .i64 e)]
def QCalls (f : Nat) (args : List AV) (l : List Tok) (m : Int) (i : Nat) (e : Int) (R : AV) (j : Nat) (d : Int) : Prop :=
  ACalls Tryd.prog f args [(0, .cells 78 (qC l i m e))] 1 fun r os n => (r = R ∧ os = [(0, .cells 78 (qC l j m d))]) ∧ n = 1
theorem QCalls.at {f : Nat} {args args' : List AV} {l : List Tok} {m e : Int} {i j : Nat} {R : AV} {d : Int} (h : QCalls f args l m i e R j d) {k : Nat} {os' : Os} {nx' : Nat} (hargs : RenL (renOf [k] nx') args args') (hR : Data R)
    (hk : getO os' k = some (.cells 78 (qC l i m e))) (lk : k < nx') {Q' : AV → Os → Nat → Prop} (hq : Q' R (putO os' k (.cells 78 (qC l j m d))) nx') : ACalls Tryd.prog f args' os' nx' Q' := by
  have ren : ∀ i e, RenOs (renOf [k] nx') 0 [.cells 78 (qC l i m e)] [.cells 78 (qC l i m e)] := fun i e => ⟨.cells ⟨.data (Tok.dataSl l), .v _, .v _, .v _, trivial⟩, trivial⟩
  refine ACalls.at (args := args) (obs := [.cells 78 (qC l i m e)]) (obs1 := [.cells 78 (qC l j m d)]) (obs' := [.cells 78 (qC l i m e)]) (obs1' := [.cells 78 (qC l j m d)]) [k] ?_ rfl rfl (by simp) (by simpa using lk) hargs (.data hR) (ren i e) ⟨hk, trivial⟩ (ren j d) hq
  exact h.mono fun r os n ⟨⟨h1, h2⟩, h3⟩ => ⟨h1, h2, h3⟩
theorem qUnd {n : Nat} (h : 1 ≤ n) (l : List Tok) (i : Nat) (m e : Int) : UndOs n [(0, .cells 78 (qC l i m e))] := ⟨by omega, ⟨.data (Tok.dataSl l), .v _ _, .v _ _, .v _ _, trivial⟩, trivial⟩
def zTok : Tok := ⟨0, ByteArray.empty, 0, 0⟩
def tk (l : List Tok) (i : Nat) : Tok := (l[i]?).getD zTok
def kdT (l : List Tok) (i : Nat) (k : Int) : Bool := decide (i < l.length) && decide ((tk l i).k = k)
theorem tk_at {l : List Tok} {i : Nat} {t : Tok} (h : l[i]? = some t) : tk l i = t := by unfold tk; rw [h]; rfl
theorem tk_out {l : List Tok} {i : Nat} (h : ¬ i < l.length) : tk l i = zTok := by unfold tk; rw [List.getElem?_eq_none (by omega)]; rfl
theorem kdT_out {l : List Tok} {i : Nat} {k : Int} (h : ¬ i < l.length) : kdT l i k = false := by unfold kdT; rw [decide_eq_false h]; rfl
theorem kdT_no {l : List Tok} {i : Nat} {k : Int} (h : ¬ (tk l i).k = k) : kdT l i k = false := by unfold kdT; rw [decide_eq_false h]; simp
theorem kdT_yes {l : List Tok} {i : Nat} {k : Int} (h : i < l.length) (h2 : (tk l i).k = k) : kdT l i k = true := by unfold kdT; rw [decide_eq_true h, decide_eq_true h2]; rfl
theorem kdT_lt {l : List Tok} {i : Nat} {k : Int} (h : kdT l i k = true) : i < l.length := by unfold kdT at h; simp at h; exact h.1
theorem isT_ltN {l : List Tok} {i : Nat} {k : Int} {s : ByteArray} (h : isT l i k s = true) : i < l.length := by have := isT_lt h; omega
def spJ (x y : Int × Int) : Int × Int := if x.1 ≥ x.2 ∧ y.1 ≥ y.2 then (0, 0) else if x.1 ≥ x.2 then y else if y.1 ≥ y.2 then x else (min x.1 y.1, max x.2 y.2)
def beg (l : List Tok) (i : Nat) : Bool := kdT l i 1 || kdT l i 2 || isT l i 3 ⟨#[116, 114, 117, 101]⟩ || isT l i 3 ⟨#[102, 97, 108, 115, 101]⟩ || isT l i 4 bOpen
theorem tokData (t : Tok) : Data (.agg t.cells) := .agg t.data
theorem is_q (l : List Tok) (m : Int) (i : Nat) (e : Int) (k : Int) (s : ByteArray) (hl : l.length ≤ 1048576) : QCalls 92 [.ptr 0 0, .v (.int .i64 k), .v (.string s)] l m (i) (e) (.v (.bool (isT l (i : Int) k s))) (i) (e) := by
  refine ACalls.clean (C := fun r os' => r = _ ∧ os' = _) ?_
  refine ACalls_intro Tryd.func92 (by kernel_rfl) rfl (by rw [Tryd.ntmps92]; simp) (fun hm => ?_)
  simp only [Tryd.ntmps92, Tryd.results92, List.length_cons, List.length_nil, Nat.reduceAdd, Nat.reduceSub, List.replicate_succ, List.replicate_zero, List.cons_append, List.nil_append]
  refine AWp_seqK fun Y0 y0 => ?_
  refine AWp_region ?_
  simp only [↓bO, go_sem, seval, Tok.cells, qC]
  refine y0 _ ?_
  try clear y0 Y0
  refine AWp_seqK fun Y0 y0 => ?_
  refine AWp_drawK 40 mixed (by kernel_rfl) fun J0 j0 => ?_
  iterate 11 (simp only [go_sem]; refine dRun_chunk 1 fun Q0 q0 => ?_; simp only [↓dRun, ↓dOp, ↓bO, go_sem, seval, Tok.cells, qC]; refine q0 _ ?_; clear q0 Q0)
  simp only [go_sem]
  refine dRun_case 17 rfl (fun hc17 => ?_) (fun hc17 => ?_)
  ·
   simp only [List.set_cons_zero, List.set_cons_succ]
   have hlt : i < l.length := by (have h9 := hc17; simp at h9; omega)
   obtain ⟨t, ht⟩ : ∃ t, l[i]? = some t := ⟨_, List.getElem?_eq_getElem hlt⟩
   have htk := tk_at ht
   iterate 15 (refine dRun_chunk 1 fun Q0 q0 => ?_; simp only [↓dRun, ↓dOp, ↓bO, go_sem, seval, Tok.cells, qC, hlt, gM ht]; refine q0 _ ?_; clear q0 Q0; simp only [go_sem])
   refine dRun_case 32 rfl (fun hc32 => ?_) (fun hc32 => ?_)
   ·
    simp only [List.set_cons_zero, List.set_cons_succ]
    have h2 : t.k = k := by simpa using hc32
    iterate 13 (refine dRun_chunk 1 fun Q0 q0 => ?_; simp only [↓dRun, ↓dOp, ↓bO, go_sem, seval, Tok.cells, qC, hlt, gM ht]; refine q0 _ ?_; clear q0 Q0; simp only [go_sem])
    simp only [↓dRun, ↓dOp, ↓bO, go_sem, seval, Tok.cells, qC, hlt, gM ht]
    refine j0 _ ?_
    clear j0 J0
    simp only [go_sem]
    simp only [↓bO, go_sem, seval, Tok.cells, qC, hlt, gM ht]
    refine y0 _ ?_
    try clear y0 Y0
    refine AWp_ret ?_
    try simp only [thenQ, blockQ, noGotoQ, retQ, aRes, tupOf, bS, bA]
    have hr : isT l (i : Int) k s = eqS t.s s := isT_yes (by omega) (by simpa using ht) h2
    refine ⟨_, _, ⟨rfl, rfl⟩, .v _ _, qUnd (by omega) _ _ _ _, ?_, ?_, by omega⟩
    · first | exact Le.refl _ | exact Le.of_eq (congrArg (fun b => AV.v (.bool b)) hr.symm)
    · first | exact ⟨0, rfl, rfl⟩ | exact ⟨1, rfl, rfl⟩ | exact ⟨2, rfl, rfl⟩ | exact ⟨3, rfl, rfl⟩
   ·
    simp only [List.set_cons_zero, List.set_cons_succ]
    have h2 : ¬ t.k = k := by simpa using hc32
    iterate 13 (refine dRun_chunk 1 fun Q0 q0 => ?_; simp only [↓dRun, ↓dOp, ↓bO, go_sem, seval, Tok.cells, qC, hlt, gM ht]; refine q0 _ ?_; clear q0 Q0; simp only [go_sem])
    simp only [↓dRun, ↓dOp, ↓bO, go_sem, seval, Tok.cells, qC, hlt, gM ht]
    refine j0 _ ?_
    clear j0 J0
    simp only [go_sem]
    simp only [↓bO, go_sem, seval, Tok.cells, qC, hlt, gM ht]
    refine y0 _ ?_
    try clear y0 Y0
    refine AWp_ret ?_
    try simp only [thenQ, blockQ, noGotoQ, retQ, aRes, tupOf, bS, bA]
    have hr : isT l (i : Int) k s = false := isT_no (by omega) (by simpa using ht) h2
    rw [hr]
    refine ⟨_, _, ⟨rfl, rfl⟩, .v _ _, qUnd (by omega) _ _ _ _, ?_, ?_, by omega⟩
    · first | exact Le.refl _ | exact Le.of_eq (congrArg (fun b => AV.v (.bool b)) hr.symm)
    · first | exact ⟨0, rfl, rfl⟩ | exact ⟨1, rfl, rfl⟩ | exact ⟨2, rfl, rfl⟩ | exact ⟨3, rfl, rfl⟩
  ·
   simp only [List.set_cons_zero, List.set_cons_succ]
   have hge : ¬ i < l.length := by (have h9 := hc17; simp at h9; omega)
   iterate 28 (refine dRun_chunk 1 fun Q0 q0 => ?_; simp only [↓dRun, ↓dOp, ↓bO, go_sem, seval, Tok.cells, qC]; refine q0 _ ?_; clear q0 Q0; simp only [go_sem])
   simp only [↓dRun, ↓dOp, ↓bO, go_sem, seval, Tok.cells, qC]
   refine j0 _ ?_
   clear j0 J0
   simp only [go_sem]
   simp only [↓bO, go_sem, seval, Tok.cells, qC]
   refine y0 _ ?_
   try clear y0 Y0
   refine AWp_ret ?_
   try simp only [thenQ, blockQ, noGotoQ, retQ, aRes, tupOf, bS, bA]
   have hr : isT l (i : Int) k s = false := isT_out fun h => hge (by omega)
   rw [hr]
   refine ⟨_, _, ⟨rfl, rfl⟩, .v _ _, qUnd (by omega) _ _ _ _, ?_, ?_, by omega⟩
   · first | exact Le.refl _ | exact Le.of_eq (congrArg (fun b => AV.v (.bool b)) hr.symm)
   · first | exact ⟨0, rfl, rfl⟩ | exact ⟨1, rfl, rfl⟩ | exact ⟨2, rfl, rfl⟩ | exact ⟨3, rfl, rfl⟩
theorem take_q (l : List Tok) (m : Int) (i : Nat) (e : Int) (k : Int) (s : ByteArray) (hl : l.length ≤ 1048576) : QCalls 77 [.ptr 0 0, .v (.int .i64 k), .v (.string s)] l m (i) (e) (.v (.bool (isT l (i : Int) k s))) (if isT l (i : Int) k s = true then i + 1 else i) (e) := by
  refine ACalls.clean (C := fun r os' => r = _ ∧ os' = _) ?_
  refine ACalls_intro Tryd.func77 (by kernel_rfl) rfl (by rw [Tryd.ntmps77]; simp) (fun hm => ?_)
  simp only [Tryd.ntmps77, Tryd.results77, List.length_cons, List.length_nil, Nat.reduceAdd, Nat.reduceSub, List.replicate_succ, List.replicate_zero, List.cons_append, List.nil_append]
  refine AWp_seqK fun Y0 y0 => ?_
  refine AWp_region ?_
  simp only [↓bO, go_sem, seval, Tok.cells, qC]
  refine y0 _ ?_
  try clear y0 Y0
  refine AWp_seqK fun Y0 y0 => ?_
  refine AWp_seqK fun Y1 y1 => ?_
  refine AWp_region ?_
  iterate 3 (refine aops_chunk 1 fun Q0 q0 => ?_; simp only [↓bO, go_sem, seval, Tok.cells, qC]; refine q0 _ ?_; clear q0 Q0; simp only [go_sem])
  refine aops_chunk 1 fun Q0 q0 => ?_
  simp only [↓bO, go_sem, seval, Tok.cells, qC]
  refine QCalls.at (k := 0) (is_q l m i e k s hl) ?_ (.v _) rfl (by first | omega | (simp only; omega)) ?_
  · exact ⟨.ptr rfl, .v _, .v _, trivial⟩
  simp only [putO, Nat.reduceEqDiff, ↓reduceIte]
  try simp only [bS, bA, thenQ, blockQ, noGotoQ]
  refine q0 _ ?_
  clear q0 Q0
  simp only [go_sem]
  simp only [↓bO, go_sem, seval, Tok.cells, qC]
  refine y1 _ ?_
  try clear y1 Y1
  refine AWp_cond rfl (fun hb11 => ?_) (fun hb11 => ?_)
  ·
   have h1 : isT l (i : Int) k s = false := by simpa using hb11
   refine AWp_seqK fun Y1 y1 => ?_
   refine AWp_region ?_
   simp only [↓bO, go_sem, seval, Tok.cells, qC]
   refine y1 _ ?_
   try clear y1 Y1
   refine AWp_ret ?_
   try simp only [thenQ, blockQ, noGotoQ, retQ, aRes, tupOf, bS, bA]
   simp only [h1, Bool.false_eq_true, if_false]
   refine ⟨_, _, ⟨rfl, rfl⟩, .v _ _, qUnd (by omega) _ _ _ _, ?_, ?_, by omega⟩
   · exact Le.refl _
   · first | exact ⟨0, rfl, rfl⟩ | exact ⟨1, rfl, rfl⟩ | exact ⟨2, rfl, rfl⟩ | exact ⟨3, rfl, rfl⟩
  ·
   have h1 : isT l (i : Int) k s = true := by simpa using hb11
   have hlt := isT_ltN h1
   have hw : IntKind.i64.wrap ((i : Int) + 1) = ((i + 1 : Nat) : Int) := by (rw [wrap_in (by omega) (by omega)]; omega)
   refine AWp_skip ?_
   try simp only [thenQ, blockQ, noGotoQ]
   refine y0 _ ?_
   try clear y0 Y0
   refine AWp_seqK fun Y0 y0 => ?_
   refine AWp_region ?_
   iterate 7 (refine aops_chunk 1 fun Q0 q0 => ?_; simp only [↓bO, go_sem, seval, Tok.cells, qC, hw]; refine q0 _ ?_; clear q0 Q0; simp only [go_sem])
   simp only [↓bO, go_sem, seval, Tok.cells, qC, hw]
   refine y0 _ ?_
   try clear y0 Y0
   refine AWp_seqK fun Y0 y0 => ?_
   refine AWp_region ?_
   simp only [↓bO, go_sem, seval, Tok.cells, qC, hw]
   refine y0 _ ?_
   try clear y0 Y0
   refine AWp_ret ?_
   try simp only [thenQ, blockQ, noGotoQ, retQ, aRes, tupOf, bS, bA]
   simp only [h1, if_true]
   refine ⟨_, _, ⟨rfl, rfl⟩, .v _ _, qUnd (by omega) _ _ _ _, ?_, ?_, by omega⟩
   · exact Le.refl _
   · first | exact ⟨0, rfl, rfl⟩ | exact ⟨1, rfl, rfl⟩ | exact ⟨2, rfl, rfl⟩ | exact ⟨3, rfl, rfl⟩
theorem kind_yes (l : List Tok) (m : Int) (i : Nat) (e : Int) (k : Int) (hl : l.length ≤ 1048576) (h : kdT l i k = true) : QCalls 65 [.ptr 0 0, .v (.int .i64 k)] l m (i) (e) (.tup [.agg (tk l i).cells, .v (.bool true)]) (i + 1) (e) := by
  refine ACalls.clean (C := fun r os' => r = _ ∧ os' = _) ?_
  refine ACalls_intro Tryd.func65 (by kernel_rfl) rfl (by rw [Tryd.ntmps65]; simp) (fun hm => ?_)
  simp only [Tryd.ntmps65, Tryd.results65, List.length_cons, List.length_nil, Nat.reduceAdd, Nat.reduceSub, List.replicate_succ, List.replicate_zero, List.cons_append, List.nil_append]
  have hlt0 := kdT_lt h
  have hw : IntKind.i64.wrap ((i : Int) + 1) = ((i + 1 : Nat) : Int) := by (rw [wrap_in (by omega) (by omega)]; omega)
  have hw2 : IntKind.i64.wrap (((i + 1 : Nat) : Int) - 1) = (i : Int) := by (rw [wrap_in (by omega) (by omega)]; omega)
  refine AWp_seqK fun Y0 y0 => ?_
  refine AWp_region ?_
  refine aops_chunk 1 fun Q0 q0 => ?_
  simp only [↓bO, go_sem, seval, Tok.cells, qC, hw, hw2]
  refine q0 _ ?_
  clear q0 Q0
  simp only [go_sem]
  simp only [↓bO, go_sem, seval, Tok.cells, qC, hw, hw2]
  refine y0 _ ?_
  try clear y0 Y0
  refine AWp_seqK fun Y0 y0 => ?_
  refine AWp_seqK fun Y1 y1 => ?_
  refine AWp_drawK 25 mixed (by kernel_rfl) fun J0 j0 => ?_
  iterate 11 (simp only [go_sem]; refine dRun_chunk 1 fun Q0 q0 => ?_; simp only [↓dRun, ↓dOp, ↓bO, go_sem, seval, Tok.cells, qC, hw, hw2]; refine q0 _ ?_; clear q0 Q0)
  simp only [go_sem]
  refine dRun_case 16 rfl (fun hc16 => ?_) (fun hc16 => ?_)
  ·
   simp only [List.set_cons_zero, List.set_cons_succ]
   exact absurd hc16 (by simp; omega)
  ·
   simp only [List.set_cons_zero, List.set_cons_succ]
   have hlt : i < l.length := by (have h9 := hc16; simp at h9; omega)
   obtain ⟨t, ht⟩ : ∃ t, l[i]? = some t := ⟨_, List.getElem?_eq_getElem hlt⟩
   have htk := tk_at ht
   iterate 13 (refine dRun_chunk 1 fun Q0 q0 => ?_; simp only [↓dRun, ↓dOp, ↓bO, go_sem, seval, Tok.cells, qC, hw, hw2, hlt, gM ht]; refine q0 _ ?_; clear q0 Q0; simp only [go_sem])
   simp only [↓dRun, ↓dOp, ↓bO, go_sem, seval, Tok.cells, qC, hw, hw2, hlt, gM ht]
   refine j0 _ ?_
   clear j0 J0
   simp only [bL, aops, thenQ, blockQ, noGotoQ]
   refine y1 _ ?_
   try clear y1 Y1
   refine AWp_cond rfl (fun hb30 => ?_) (fun hb30 => ?_)
   ·
    exact absurd (kdT_no (l := l) (i := i) (k := k) (by rw [htk]; simpa using hb30)) (by rw [h]; simp)
   ·
    refine AWp_skip ?_
    try simp only [thenQ, blockQ, noGotoQ]
    refine y0 _ ?_
    try clear y0 Y0
    refine AWp_seqK fun Y0 y0 => ?_
    refine AWp_region ?_
    iterate 7 (refine aops_chunk 1 fun Q0 q0 => ?_; simp only [↓bO, go_sem, seval, Tok.cells, qC, hw, hw2, hlt, gM ht]; refine q0 _ ?_; clear q0 Q0; simp only [go_sem])
    simp only [↓bO, go_sem, seval, Tok.cells, qC, hw, hw2, hlt, gM ht]
    refine y0 _ ?_
    try clear y0 Y0
    refine AWp_seqK fun Y0 y0 => ?_
    refine AWp_drawK 11 mixed (by kernel_rfl) fun J0 j0 => ?_
    iterate 10 (simp only [go_sem]; refine dRun_chunk 1 fun Q0 q0 => ?_; simp only [↓dRun, ↓dOp, ↓bO, go_sem, seval, Tok.cells, qC, hw, hw2, hlt, gM ht]; refine q0 _ ?_; clear q0 Q0)
    simp only [go_sem]
    simp only [↓dRun, ↓dOp, ↓bO, go_sem, seval, Tok.cells, qC, hw, hw2, hlt, gM ht]
    refine j0 _ ?_
    clear j0 J0
    simp only [go_sem]
    refine aops_chunk 1 fun Q0 q0 => ?_
    simp only [↓bO, go_sem, seval, Tok.cells, qC, hw, hw2, hlt, gM ht]
    refine q0 _ ?_
    clear q0 Q0
    simp only [go_sem]
    simp only [↓bO, go_sem, seval, Tok.cells, qC, hw, hw2, hlt, gM ht]
    refine y0 _ ?_
    try clear y0 Y0
    refine AWp_ret ?_
    try simp only [thenQ, blockQ, noGotoQ, retQ, aRes, tupOf, bS, bA, aLoad, getO, pack, bL, Nat.reduceAdd, Nat.reduceLeDiff, Nat.reduceEqDiff, ↓reduceIte, ti58, tyX, Tok.cells, List.length_map, qC, hw, hw2, hlt, gM ht]
    rw [htk]
    refine ⟨_, _, ⟨rfl, rfl⟩, .data (.tup (.cons (tokData _) (.cons (.v _) .nil))), qUnd (by omega) _ _ _ _, ?_, ?_, by omega⟩
    · exact Le.refl _
    · first | exact ⟨0, rfl, rfl⟩ | exact ⟨1, rfl, rfl⟩ | exact ⟨2, rfl, rfl⟩ | exact ⟨3, rfl, rfl⟩
theorem kind_no (l : List Tok) (m : Int) (i : Nat) (e : Int) (k : Int) (hl : l.length ≤ 1048576) (h : kdT l i k = false) : QCalls 65 [.ptr 0 0, .v (.int .i64 k)] l m (i) (e) (.tup [.agg zTok.cells, .v (.bool false)]) (i) (e) := by
  refine ACalls.clean (C := fun r os' => r = _ ∧ os' = _) ?_
  refine ACalls_intro Tryd.func65 (by kernel_rfl) rfl (by rw [Tryd.ntmps65]; simp) (fun hm => ?_)
  simp only [Tryd.ntmps65, Tryd.results65, List.length_cons, List.length_nil, Nat.reduceAdd, Nat.reduceSub, List.replicate_succ, List.replicate_zero, List.cons_append, List.nil_append]
  refine AWp_seqK fun Y0 y0 => ?_
  refine AWp_region ?_
  refine aops_chunk 1 fun Q0 q0 => ?_
  simp only [↓bO, go_sem, seval, Tok.cells, qC]
  refine q0 _ ?_
  clear q0 Q0
  simp only [go_sem]
  simp only [↓bO, go_sem, seval, Tok.cells, qC]
  refine y0 _ ?_
  try clear y0 Y0
  refine AWp_seqK fun Y0 y0 => ?_
  refine AWp_seqK fun Y1 y1 => ?_
  refine AWp_drawK 25 mixed (by kernel_rfl) fun J0 j0 => ?_
  iterate 11 (simp only [go_sem]; refine dRun_chunk 1 fun Q0 q0 => ?_; simp only [↓dRun, ↓dOp, ↓bO, go_sem, seval, Tok.cells, qC]; refine q0 _ ?_; clear q0 Q0)
  simp only [go_sem]
  refine dRun_case 16 rfl (fun hc16 => ?_) (fun hc16 => ?_)
  ·
   simp only [List.set_cons_zero, List.set_cons_succ]
   iterate 13 (refine dRun_chunk 1 fun Q0 q0 => ?_; simp only [↓dRun, ↓dOp, ↓bO, go_sem, seval, Tok.cells, qC]; refine q0 _ ?_; clear q0 Q0; simp only [go_sem])
   simp only [↓dRun, ↓dOp, ↓bO, go_sem, seval, Tok.cells, qC]
   refine j0 _ ?_
   clear j0 J0
   simp only [bL, aops, thenQ, blockQ, noGotoQ]
   refine y1 _ ?_
   try clear y1 Y1
   refine AWp_cond (b := true) (by first | exact rfl | exact congrArg (fun b => AV.v (.bool b)) hb30) (fun _ => ?_) (fun h => (by cases h))
   refine AWp_seqK fun Y1 y1 => ?_
   refine AWp_region ?_
   iterate 2 (refine aops_chunk 1 fun Q0 q0 => ?_; simp only [↓bO, go_sem, seval, Tok.cells, qC]; refine q0 _ ?_; clear q0 Q0; simp only [go_sem])
   simp only [↓bO, go_sem, seval, Tok.cells, qC]
   refine y1 _ ?_
   try clear y1 Y1
   refine AWp_ret ?_
   try simp only [thenQ, blockQ, noGotoQ, retQ, aRes, tupOf, bS, bA, aLoad, getO, pack, bL, Nat.reduceAdd, Nat.reduceLeDiff, Nat.reduceEqDiff, ↓reduceIte, ti58, tyX, Tok.cells, List.length_map, qC]
   refine ⟨_, _, ⟨rfl, rfl⟩, .data (.tup (.cons (tokData _) (.cons (.v _) .nil))), qUnd (by omega) _ _ _ _, ?_, ?_, by omega⟩
   · exact Le.refl _
   · first | exact ⟨0, rfl, rfl⟩ | exact ⟨1, rfl, rfl⟩ | exact ⟨2, rfl, rfl⟩ | exact ⟨3, rfl, rfl⟩
  ·
   simp only [List.set_cons_zero, List.set_cons_succ]
   have hlt : i < l.length := by (have h9 := hc16; simp at h9; omega)
   obtain ⟨t, ht⟩ : ∃ t, l[i]? = some t := ⟨_, List.getElem?_eq_getElem hlt⟩
   have htk := tk_at ht
   iterate 13 (refine dRun_chunk 1 fun Q0 q0 => ?_; simp only [↓dRun, ↓dOp, ↓bO, go_sem, seval, Tok.cells, qC, hlt, gM ht]; refine q0 _ ?_; clear q0 Q0; simp only [go_sem])
   simp only [↓dRun, ↓dOp, ↓bO, go_sem, seval, Tok.cells, qC, hlt, gM ht]
   refine j0 _ ?_
   clear j0 J0
   simp only [bL, aops, thenQ, blockQ, noGotoQ]
   refine y1 _ ?_
   try clear y1 Y1
   refine AWp_cond rfl (fun hb30 => ?_) (fun hb30 => ?_)
   ·
    refine AWp_seqK fun Y1 y1 => ?_
    refine AWp_region ?_
    iterate 2 (refine aops_chunk 1 fun Q0 q0 => ?_; simp only [↓bO, go_sem, seval, Tok.cells, qC, hlt, gM ht]; refine q0 _ ?_; clear q0 Q0; simp only [go_sem])
    simp only [↓bO, go_sem, seval, Tok.cells, qC, hlt, gM ht]
    refine y1 _ ?_
    try clear y1 Y1
    refine AWp_ret ?_
    try simp only [thenQ, blockQ, noGotoQ, retQ, aRes, tupOf, bS, bA, aLoad, getO, pack, bL, Nat.reduceAdd, Nat.reduceLeDiff, Nat.reduceEqDiff, ↓reduceIte, ti58, tyX, Tok.cells, List.length_map, qC, hlt, gM ht]
    refine ⟨_, _, ⟨rfl, rfl⟩, .data (.tup (.cons (tokData _) (.cons (.v _) .nil))), qUnd (by omega) _ _ _ _, ?_, ?_, by omega⟩
    · exact Le.refl _
    · first | exact ⟨0, rfl, rfl⟩ | exact ⟨1, rfl, rfl⟩ | exact ⟨2, rfl, rfl⟩ | exact ⟨3, rfl, rfl⟩
   ·
    exact absurd h (by rw [kdT_yes hlt (by rw [htk]; simpa using hb30)]; simp)
theorem here_q (l : List Tok) (m : Int) (i : Nat) (e : Int) (hl : l.length ≤ 1048576) : QCalls 109 [.ptr 0 0] l m (i) (e) (.agg [.v (.int .i64 (tk l i).a), .v (.int .i64 (tk l i).b)]) (i) (e) := by
  refine ACalls.clean (C := fun r os' => r = _ ∧ os' = _) ?_
  refine ACalls_intro Tryd.func109 (by kernel_rfl) rfl (by rw [Tryd.ntmps109]; simp) (fun hm => ?_)
  simp only [Tryd.ntmps109, Tryd.results109, List.length_cons, List.length_nil, Nat.reduceAdd, Nat.reduceSub, List.replicate_succ, List.replicate_zero, List.cons_append, List.nil_append]
  refine AWp_seqK fun Y0 y0 => ?_
  refine AWp_region ?_
  simp only [↓bO, go_sem, seval, Tok.cells, qC]
  refine y0 _ ?_
  try clear y0 Y0
  refine AWp_seqK fun Y0 y0 => ?_
  refine AWp_seqK fun Y1 y1 => ?_
  refine AWp_drawK 10 mixed (by kernel_rfl) fun J0 j0 => ?_
  iterate 9 (simp only [go_sem]; refine dRun_chunk 1 fun Q0 q0 => ?_; simp only [↓dRun, ↓dOp, ↓bO, go_sem, seval, Tok.cells, qC]; refine q0 _ ?_; clear q0 Q0)
  simp only [go_sem]
  simp only [↓dRun, ↓dOp, ↓bO, go_sem, seval, Tok.cells, qC]
  refine j0 _ ?_
  clear j0 J0
  simp only [bL, aops, thenQ, blockQ, noGotoQ]
  refine y1 _ ?_
  try clear y1 Y1
  refine AWp_cond rfl (fun hb12 => ?_) (fun hb12 => ?_)
  ·
   have hge : ¬ i < l.length := by (have h9 := hb12; simp at h9; omega)
   refine AWp_seqK fun Y1 y1 => ?_
   refine AWp_region ?_
   refine aops_chunk 1 fun Q0 q0 => ?_
   simp only [↓bO, go_sem, seval, Tok.cells, qC]
   refine q0 _ ?_
   clear q0 Q0
   simp only [go_sem]
   simp only [↓bO, go_sem, seval, Tok.cells, qC]
   refine y1 _ ?_
   try clear y1 Y1
   refine AWp_ret ?_
   try simp only [thenQ, blockQ, noGotoQ, retQ, aRes, tupOf, bS, bA, aLoad, getO, pack, bL, Nat.reduceAdd, Nat.reduceLeDiff, Nat.reduceEqDiff, ↓reduceIte, ti38, tyX, Tok.cells, List.length_map, qC]
   rw [tk_out hge]
   refine ⟨_, _, ⟨rfl, rfl⟩, .data (.agg (.cons (.v _) (.cons (.v _) .nil))), qUnd (by omega) _ _ _ _, ?_, ?_, by omega⟩
   · exact Le.refl _
   · first | exact ⟨0, rfl, rfl⟩ | exact ⟨1, rfl, rfl⟩ | exact ⟨2, rfl, rfl⟩ | exact ⟨3, rfl, rfl⟩
  ·
   have hlt : i < l.length := by (have h9 := hb12; simp at h9; omega)
   obtain ⟨t, ht⟩ : ∃ t, l[i]? = some t := ⟨_, List.getElem?_eq_getElem hlt⟩
   have htk := tk_at ht
   refine AWp_skip ?_
   try simp only [thenQ, blockQ, noGotoQ]
   refine y0 _ ?_
   try clear y0 Y0
   refine AWp_seqK fun Y0 y0 => ?_
   refine AWp_drawK 11 mixed (by kernel_rfl) fun J0 j0 => ?_
   iterate 10 (simp only [go_sem]; refine dRun_chunk 1 fun Q0 q0 => ?_; simp only [↓dRun, ↓dOp, ↓bO, go_sem, seval, Tok.cells, qC, hlt, gM ht]; refine q0 _ ?_; clear q0 Q0)
   simp only [go_sem]
   simp only [↓dRun, ↓dOp, ↓bO, go_sem, seval, Tok.cells, qC, hlt, gM ht]
   refine j0 _ ?_
   clear j0 J0
   simp only [go_sem]
   simp only [↓bO, go_sem, seval, Tok.cells, qC, hlt, gM ht]
   refine y0 _ ?_
   try clear y0 Y0
   refine AWp_ret ?_
   try simp only [thenQ, blockQ, noGotoQ, retQ, aRes, tupOf, bS, bA, aLoad, getO, pack, bL, Nat.reduceAdd, Nat.reduceLeDiff, Nat.reduceEqDiff, ↓reduceIte, ti38, tyX, Tok.cells, List.length_map, qC, hlt, gM ht]
   rw [htk]
   refine ⟨_, _, ⟨rfl, rfl⟩, .data (.agg (.cons (.v _) (.cons (.v _) .nil))), qUnd (by omega) _ _ _ _, ?_, ?_, by omega⟩
   · exact Le.refl _
   · first | exact ⟨0, rfl, rfl⟩ | exact ⟨1, rfl, rfl⟩ | exact ⟨2, rfl, rfl⟩ | exact ⟨3, rfl, rfl⟩
theorem fail_q (l : List Tok) (m : Int) (i : Nat) (e : Int) (c : Int) : QCalls 66 [.ptr 0 0, .v (.int .i64 c)] l m (i) (e) (.tup []) (i) (if e = 0 then c else e) := by
  refine ACalls.clean (C := fun r os' => r = _ ∧ os' = _) ?_
  refine ACalls_intro Tryd.func66 (by kernel_rfl) rfl (by rw [Tryd.ntmps66]; simp) (fun hm => ?_)
  simp only [Tryd.ntmps66, Tryd.results66, List.length_cons, List.length_nil, Nat.reduceAdd, Nat.reduceSub, List.replicate_succ, List.replicate_zero, List.cons_append, List.nil_append]
  refine AWp_seqK fun Y0 y0 => ?_
  refine AWp_region ?_
  iterate 4 (refine aops_chunk 1 fun Q0 q0 => ?_; simp only [↓bO, go_sem, seval, Tok.cells, qC]; refine q0 _ ?_; clear q0 Q0; simp only [go_sem])
  simp only [↓bO, go_sem, seval, Tok.cells, qC]
  refine y0 _ ?_
  try clear y0 Y0
  refine AWp_cond rfl (fun hb8 => ?_) (fun hb8 => ?_)
  ·
   have h8 : e = 0 := by simpa using hb8
   refine AWp_region ?_
   iterate 4 (refine aops_chunk 1 fun Q0 q0 => ?_; simp only [↓bO, go_sem, seval, Tok.cells, qC]; refine q0 _ ?_; clear q0 Q0; simp only [go_sem])
   simp only [↓bO, go_sem, seval, Tok.cells, qC]
   try simp only [thenQ, blockQ, noGotoQ, retQ, aRes, tupOf, bS, bA]
   rw [if_pos h8]
   refine ⟨_, _, ⟨rfl, rfl⟩, .data (.tup .nil), qUnd (by omega) _ _ _ _, ?_, ?_, by omega⟩
   · exact Le.refl _
   · first | exact ⟨0, rfl, rfl⟩ | exact ⟨1, rfl, rfl⟩ | exact ⟨2, rfl, rfl⟩ | exact ⟨3, rfl, rfl⟩
  ·
   have h8 : ¬ e = 0 := by simpa using hb8
   refine AWp_skip ?_
   try simp only [thenQ, blockQ, noGotoQ]
   try simp only [thenQ, blockQ, noGotoQ, retQ, aRes, tupOf, bS, bA]
   rw [if_neg h8]
   refine ⟨_, _, ⟨rfl, rfl⟩, .data (.tup .nil), qUnd (by omega) _ _ _ _, ?_, ?_, by omega⟩
   · exact Le.refl _
   · first | exact ⟨0, rfl, rfl⟩ | exact ⟨1, rfl, rfl⟩ | exact ⟨2, rfl, rfl⟩ | exact ⟨3, rfl, rfl⟩
theorem level_q (l : List Tok) (m : Int) (i : Nat) (e : Int) (n : Int) : QCalls 76 [.ptr 0 0, .v (.int .i64 n)] l m (i) (e) (.tup []) (i) (if m < n ∧ e = 0 then 4 else e) := by
  refine ACalls.clean (C := fun r os' => r = _ ∧ os' = _) ?_
  refine ACalls_intro Tryd.func76 (by kernel_rfl) rfl (by rw [Tryd.ntmps76]; simp) (fun hm => ?_)
  simp only [Tryd.ntmps76, Tryd.results76, List.length_cons, List.length_nil, Nat.reduceAdd, Nat.reduceSub, List.replicate_succ, List.replicate_zero, List.cons_append, List.nil_append]
  refine AWp_seqK fun Y0 y0 => ?_
  refine AWp_region ?_
  iterate 5 (refine aops_chunk 1 fun Q0 q0 => ?_; simp only [↓bO, go_sem, seval, Tok.cells, qC]; refine q0 _ ?_; clear q0 Q0; simp only [go_sem])
  simp only [↓bO, go_sem, seval, Tok.cells, qC]
  refine y0 _ ?_
  try clear y0 Y0
  refine AWp_cond rfl (fun hb9 => ?_) (fun hb9 => ?_)
  ·
   have h9 : m < n := by simpa using hb9
   refine AWp_region ?_
   refine aops_chunk 1 fun Q0 q0 => ?_
   simp only [↓bO, go_sem, seval, Tok.cells, qC]
   refine q0 _ ?_
   clear q0 Q0
   simp only [go_sem]
   simp only [↓bO, go_sem, seval, Tok.cells, qC]
   refine QCalls.at (k := 0) (fail_q l m i e 4) ?_ (.tup .nil) rfl (by first | omega | (simp only; omega)) ?_
   · exact ⟨.ptr rfl, .v _, trivial⟩
   simp only [putO, Nat.reduceEqDiff, ↓reduceIte]
   try simp only [bS, bA, thenQ, blockQ, noGotoQ]
   try simp only [thenQ, blockQ, noGotoQ, retQ, aRes, tupOf, bS, bA]
   rw [show (if m < n ∧ e = 0 then (4 : Int) else e) = if e = 0 then 4 else e by simp [h9]]
   refine ⟨_, _, ⟨rfl, rfl⟩, .data (.tup .nil), qUnd (by omega) _ _ _ _, ?_, ?_, by omega⟩
   · exact Le.refl _
   · first | exact ⟨0, rfl, rfl⟩ | exact ⟨1, rfl, rfl⟩ | exact ⟨2, rfl, rfl⟩ | exact ⟨3, rfl, rfl⟩
  ·
   have h9 : ¬ m < n := by simpa using hb9
   refine AWp_skip ?_
   try simp only [thenQ, blockQ, noGotoQ]
   try simp only [thenQ, blockQ, noGotoQ, retQ, aRes, tupOf, bS, bA]
   rw [if_neg fun h => h9 h.1]
   refine ⟨_, _, ⟨rfl, rfl⟩, .data (.tup .nil), qUnd (by omega) _ _ _ _, ?_, ?_, by omega⟩
   · exact Le.refl _
   · first | exact ⟨0, rfl, rfl⟩ | exact ⟨1, rfl, rfl⟩ | exact ⟨2, rfl, rfl⟩ | exact ⟨3, rfl, rfl⟩
theorem want_q (l : List Tok) (m : Int) (i : Nat) (e : Int) (k : Int) (s : ByteArray) (hl : l.length ≤ 1048576) : QCalls 95 [.ptr 0 0, .v (.int .i64 k), .v (.string s)] l m (i) (e) (.tup []) (if e = 0 ∧ isT l (i : Int) k s = true then i + 1 else i) (if e = 0 ∧ isT l (i : Int) k s = false then 3 else e) := by
  refine ACalls.clean (C := fun r os' => r = _ ∧ os' = _) ?_
  refine ACalls_intro Tryd.func95 (by kernel_rfl) rfl (by rw [Tryd.ntmps95]; simp) (fun hm => ?_)
  simp only [Tryd.ntmps95, Tryd.results95, List.length_cons, List.length_nil, Nat.reduceAdd, Nat.reduceSub, List.replicate_succ, List.replicate_zero, List.cons_append, List.nil_append]
  refine AWp_seqK fun Y0 y0 => ?_
  refine AWp_region ?_
  iterate 6 (refine aops_chunk 1 fun Q0 q0 => ?_; simp only [↓bO, go_sem, seval, Tok.cells, qC]; refine q0 _ ?_; clear q0 Q0; simp only [go_sem])
  refine aops_case 11 rfl (fun hc11 => ?_) (fun hc11 => ?_)
  ·
   simp only [List.set_cons_zero, List.set_cons_succ]
   have h0 : e = 0 := by simpa using hc11
   subst h0
   iterate 5 (refine aops_chunk 1 fun Q0 q0 => ?_; simp only [↓bO, go_sem, seval, Tok.cells, qC]; refine q0 _ ?_; clear q0 Q0; simp only [go_sem])
   refine aops_chunk 1 fun Q0 q0 => ?_
   simp only [↓bO, go_sem, seval, Tok.cells, qC]
   refine QCalls.at (k := 0) (take_q l m i 0 k s hl) ?_ (.v _) rfl (by first | omega | (simp only; omega)) ?_
   · exact ⟨.ptr rfl, .v _, .v _, trivial⟩
   simp only [putO, Nat.reduceEqDiff, ↓reduceIte]
   try simp only [bS, bA, thenQ, blockQ, noGotoQ]
   refine q0 _ ?_
   clear q0 Q0
   simp only [go_sem]
   refine aops_chunk 1 fun Q0 q0 => ?_
   simp only [↓bO, go_sem, seval, Tok.cells, qC]
   refine q0 _ ?_
   clear q0 Q0
   simp only [go_sem]
   simp only [↓bO, go_sem, seval, Tok.cells, qC]
   refine y0 _ ?_
   try clear y0 Y0
   refine AWp_cond rfl (fun hb19 => ?_) (fun hb19 => ?_)
   ·
    have h1 : isT l (i : Int) k s = false := by simpa using hb19
    simp only [h1, Bool.false_eq_true, if_false]
    refine AWp_region ?_
    refine aops_chunk 1 fun Q0 q0 => ?_
    simp only [↓bO, go_sem, seval, Tok.cells, qC]
    refine q0 _ ?_
    clear q0 Q0
    simp only [go_sem]
    simp only [↓bO, go_sem, seval, Tok.cells, qC]
    refine QCalls.at (k := 0) (fail_q l m i 0 3) ?_ (.tup .nil) rfl (by first | omega | (simp only; omega)) ?_
    · exact ⟨.ptr rfl, .v _, trivial⟩
    simp only [putO, Nat.reduceEqDiff, ↓reduceIte]
    try simp only [bS, bA, thenQ, blockQ, noGotoQ]
    try simp only [thenQ, blockQ, noGotoQ, retQ, aRes, tupOf, bS, bA]
    try simp only [h1, Bool.false_eq_true, and_false, if_false, and_self, if_true]
    refine ⟨_, _, ⟨rfl, rfl⟩, .data (.tup .nil), qUnd (by omega) _ _ _ _, ?_, ?_, by omega⟩
    · exact Le.refl _
    · first | exact ⟨0, rfl, rfl⟩ | exact ⟨1, rfl, rfl⟩ | exact ⟨2, rfl, rfl⟩ | exact ⟨3, rfl, rfl⟩
   ·
    have h1 : isT l (i : Int) k s = true := by simpa using hb19
    simp only [h1, if_true]
    refine AWp_skip ?_
    try simp only [thenQ, blockQ, noGotoQ]
    try simp only [thenQ, blockQ, noGotoQ, retQ, aRes, tupOf, bS, bA]
    try simp only [h1, and_self, if_true, Bool.true_eq_false, and_false, if_false]
    refine ⟨_, _, ⟨rfl, rfl⟩, .data (.tup .nil), qUnd (by omega) _ _ _ _, ?_, ?_, by omega⟩
    · exact Le.refl _
    · first | exact ⟨0, rfl, rfl⟩ | exact ⟨1, rfl, rfl⟩ | exact ⟨2, rfl, rfl⟩ | exact ⟨3, rfl, rfl⟩
  ·
   simp only [List.set_cons_zero, List.set_cons_succ]
   have h0 : ¬ e = 0 := by simpa using hc11
   iterate 7 (refine aops_chunk 1 fun Q0 q0 => ?_; simp only [↓bO, go_sem, seval, Tok.cells, qC]; refine q0 _ ?_; clear q0 Q0; simp only [go_sem])
   simp only [↓bO, go_sem, seval, Tok.cells, qC]
   refine y0 _ ?_
   try clear y0 Y0
   refine AWp_cond (b := false) (by first | exact rfl | exact congrArg (fun b => AV.v (.bool b)) hb19) (fun h => (by cases h)) (fun _ => ?_)
   refine AWp_skip ?_
   try simp only [thenQ, blockQ, noGotoQ]
   try simp only [thenQ, blockQ, noGotoQ, retQ, aRes, tupOf, bS, bA]
   rw [if_neg fun h => h0 h.1, if_neg fun h => h0 h.1]
   refine ⟨_, _, ⟨rfl, rfl⟩, .data (.tup .nil), qUnd (by omega) _ _ _ _, ?_, ?_, by omega⟩
   · exact Le.refl _
   · first | exact ⟨0, rfl, rfl⟩ | exact ⟨1, rfl, rfl⟩ | exact ⟨2, rfl, rfl⟩ | exact ⟨3, rfl, rfl⟩
theorem name_yes (l : List Tok) (m : Int) (i : Nat) (e : Int) (hl : l.length ≤ 1048576) (he : e = 0) (h : kdT l i 1 = true) : QCalls 94 [.ptr 0 0] l m (i) (e) (.v (.string (tk l i).s)) (i + 1) (0) := by
  subst he
  refine ACalls.clean (C := fun r os' => r = _ ∧ os' = _) ?_
  refine ACalls_intro Tryd.func94 (by kernel_rfl) rfl (by rw [Tryd.ntmps94]; simp) (fun hm => ?_)
  simp only [Tryd.ntmps94, Tryd.results94, List.length_cons, List.length_nil, Nat.reduceAdd, Nat.reduceSub, List.replicate_succ, List.replicate_zero, List.cons_append, List.nil_append]
  refine AWp_seqK fun Y0 y0 => ?_
  refine AWp_region ?_
  simp only [↓bO, go_sem, seval, Tok.cells, qC]
  refine y0 _ ?_
  try clear y0 Y0
  refine AWp_seqK fun Y0 y0 => ?_
  refine AWp_seqK fun Y1 y1 => ?_
  refine AWp_region ?_
  iterate 4 (refine aops_chunk 1 fun Q0 q0 => ?_; simp only [↓bO, go_sem, seval, Tok.cells, qC]; refine q0 _ ?_; clear q0 Q0; simp only [go_sem])
  simp only [↓bO, go_sem, seval, Tok.cells, qC]
  refine y1 _ ?_
  try clear y1 Y1
  refine AWp_cond rfl (fun hb9 => ?_) (fun hb9 => ?_)
  ·
   exact absurd hb9 (by simp)
  ·
   refine AWp_skip ?_
   try simp only [thenQ, blockQ, noGotoQ]
   refine y0 _ ?_
   try clear y0 Y0
   refine AWp_seqK fun Y0 y0 => ?_
   refine AWp_region ?_
   iterate 3 (refine aops_chunk 1 fun Q0 q0 => ?_; simp only [↓bO, go_sem, seval, Tok.cells, qC]; refine q0 _ ?_; clear q0 Q0; simp only [go_sem])
   refine aops_chunk 1 fun Q0 q0 => ?_
   simp only [↓bO, go_sem, seval, Tok.cells, qC]
   refine QCalls.at (k := 0) (kind_yes l m i 0 1 hl h) ?_ (.tup (.cons (tokData _) (.cons (.v _) .nil))) rfl (by first | omega | (simp only; omega)) ?_
   · exact ⟨.ptr rfl, .v _, trivial⟩
   simp only [putO, Nat.reduceEqDiff, ↓reduceIte]
   try simp only [bS, bA, thenQ, blockQ, noGotoQ]
   iterate 5 (refine q0 _ ?_; clear q0 Q0; simp only [go_sem]; refine aops_chunk 1 fun Q0 q0 => ?_; simp only [↓bO, go_sem, seval, Tok.cells, qC])
   refine q0 _ ?_
   clear q0 Q0
   simp only [go_sem]
   simp only [↓bO, go_sem, seval, Tok.cells, qC]
   refine y0 _ ?_
   try clear y0 Y0
   refine AWp_seqK fun Y0 y0 => ?_
   refine AWp_seqK fun Y1 y1 => ?_
   refine AWp_region ?_
   refine aops_chunk 1 fun Q0 q0 => ?_
   simp only [↓bO, go_sem, seval, Tok.cells, qC]
   refine q0 _ ?_
   clear q0 Q0
   simp only [go_sem]
   simp only [↓bO, go_sem, seval, Tok.cells, qC]
   refine y1 _ ?_
   try clear y1 Y1
   refine AWp_cond rfl (fun hb18 => ?_) (fun hb18 => ?_)
   ·
    exact absurd hb18 (by simp)
   ·
    refine AWp_skip ?_
    try simp only [thenQ, blockQ, noGotoQ]
    refine y0 _ ?_
    try clear y0 Y0
    refine AWp_seqK fun Y0 y0 => ?_
    refine AWp_region ?_
    iterate 2 (refine aops_chunk 1 fun Q0 q0 => ?_; simp only [↓bO, go_sem, seval, Tok.cells, qC]; refine q0 _ ?_; clear q0 Q0; simp only [go_sem])
    simp only [↓bO, go_sem, seval, Tok.cells, qC]
    refine y0 _ ?_
    try clear y0 Y0
    refine AWp_ret ?_
    try simp only [thenQ, blockQ, noGotoQ, retQ, aRes, tupOf, bS, bA]
    refine ⟨_, _, ⟨rfl, rfl⟩, .v _ _, qUnd (by omega) _ _ _ _, ?_, ?_, by omega⟩
    · exact Le.refl _
    · first | exact ⟨0, rfl, rfl⟩ | exact ⟨1, rfl, rfl⟩ | exact ⟨2, rfl, rfl⟩ | exact ⟨3, rfl, rfl⟩
theorem name_no (l : List Tok) (m : Int) (i : Nat) (e : Int) (hl : l.length ≤ 1048576) (he : e = 0) (h : kdT l i 1 = false) : QCalls 94 [.ptr 0 0] l m (i) (e) (.v (.string ByteArray.empty)) (i) (3) := by
  subst he
  refine ACalls.clean (C := fun r os' => r = _ ∧ os' = _) ?_
  refine ACalls_intro Tryd.func94 (by kernel_rfl) rfl (by rw [Tryd.ntmps94]; simp) (fun hm => ?_)
  simp only [Tryd.ntmps94, Tryd.results94, List.length_cons, List.length_nil, Nat.reduceAdd, Nat.reduceSub, List.replicate_succ, List.replicate_zero, List.cons_append, List.nil_append]
  refine AWp_seqK fun Y0 y0 => ?_
  refine AWp_region ?_
  simp only [↓bO, go_sem, seval, Tok.cells, qC]
  refine y0 _ ?_
  try clear y0 Y0
  refine AWp_seqK fun Y0 y0 => ?_
  refine AWp_seqK fun Y1 y1 => ?_
  refine AWp_region ?_
  iterate 4 (refine aops_chunk 1 fun Q0 q0 => ?_; simp only [↓bO, go_sem, seval, Tok.cells, qC]; refine q0 _ ?_; clear q0 Q0; simp only [go_sem])
  simp only [↓bO, go_sem, seval, Tok.cells, qC]
  refine y1 _ ?_
  try clear y1 Y1
  refine AWp_cond rfl (fun hb9 => ?_) (fun hb9 => ?_)
  ·
   exact absurd hb9 (by simp)
  ·
   refine AWp_skip ?_
   try simp only [thenQ, blockQ, noGotoQ]
   refine y0 _ ?_
   try clear y0 Y0
   refine AWp_seqK fun Y0 y0 => ?_
   refine AWp_region ?_
   iterate 3 (refine aops_chunk 1 fun Q0 q0 => ?_; simp only [↓bO, go_sem, seval, Tok.cells, qC]; refine q0 _ ?_; clear q0 Q0; simp only [go_sem])
   refine aops_chunk 1 fun Q0 q0 => ?_
   simp only [↓bO, go_sem, seval, Tok.cells, qC]
   refine QCalls.at (k := 0) (kind_no l m i 0 1 hl h) ?_ (.tup (.cons (tokData _) (.cons (.v _) .nil))) rfl (by first | omega | (simp only; omega)) ?_
   · exact ⟨.ptr rfl, .v _, trivial⟩
   simp only [putO, Nat.reduceEqDiff, ↓reduceIte]
   try simp only [bS, bA, thenQ, blockQ, noGotoQ]
   iterate 5 (refine q0 _ ?_; clear q0 Q0; simp only [go_sem]; refine aops_chunk 1 fun Q0 q0 => ?_; simp only [↓bO, go_sem, seval, Tok.cells, qC])
   refine q0 _ ?_
   clear q0 Q0
   simp only [go_sem]
   simp only [↓bO, go_sem, seval, Tok.cells, qC]
   refine y0 _ ?_
   try clear y0 Y0
   refine AWp_seqK fun Y0 y0 => ?_
   refine AWp_seqK fun Y1 y1 => ?_
   refine AWp_region ?_
   refine aops_chunk 1 fun Q0 q0 => ?_
   simp only [↓bO, go_sem, seval, Tok.cells, qC]
   refine q0 _ ?_
   clear q0 Q0
   simp only [go_sem]
   simp only [↓bO, go_sem, seval, Tok.cells, qC]
   refine y1 _ ?_
   try clear y1 Y1
   refine AWp_cond rfl (fun hb18 => ?_) (fun hb18 => ?_)
   ·
    refine AWp_region ?_
    refine aops_chunk 1 fun Q0 q0 => ?_
    simp only [↓bO, go_sem, seval, Tok.cells, qC]
    refine q0 _ ?_
    clear q0 Q0
    simp only [go_sem]
    simp only [↓bO, go_sem, seval, Tok.cells, qC]
    refine QCalls.at (k := 0) (fail_q l m i 0 3) ?_ (.tup .nil) rfl (by first | omega | (simp only; omega)) ?_
    · exact ⟨.ptr rfl, .v _, trivial⟩
    simp only [putO, Nat.reduceEqDiff, ↓reduceIte]
    try simp only [bS, bA, thenQ, blockQ, noGotoQ]
    refine y0 _ ?_
    try clear y0 Y0
    refine AWp_seqK fun Y0 y0 => ?_
    refine AWp_region ?_
    iterate 2 (refine aops_chunk 1 fun Q0 q0 => ?_; simp only [↓bO, go_sem, seval, Tok.cells, qC]; refine q0 _ ?_; clear q0 Q0; simp only [go_sem])
    simp only [↓bO, go_sem, seval, Tok.cells, qC]
    refine y0 _ ?_
    try clear y0 Y0
    refine AWp_ret ?_
    try simp only [thenQ, blockQ, noGotoQ, retQ, aRes, tupOf, bS, bA]
    refine ⟨_, _, ⟨rfl, rfl⟩, .v _ _, qUnd (by omega) _ _ _ _, ?_, ?_, by omega⟩
    · exact Le.refl _
    · first | exact ⟨0, rfl, rfl⟩ | exact ⟨1, rfl, rfl⟩ | exact ⟨2, rfl, rfl⟩ | exact ⟨3, rfl, rfl⟩
   ·
    exact absurd hb18 (by simp)
theorem name_bad (l : List Tok) (m : Int) (i : Nat) (e : Int) (he : ¬ e = 0) : QCalls 94 [.ptr 0 0] l m (i) (e) (.v (.string ByteArray.empty)) (i) (e) := by
  refine ACalls.clean (C := fun r os' => r = _ ∧ os' = _) ?_
  refine ACalls_intro Tryd.func94 (by kernel_rfl) rfl (by rw [Tryd.ntmps94]; simp) (fun hm => ?_)
  simp only [Tryd.ntmps94, Tryd.results94, List.length_cons, List.length_nil, Nat.reduceAdd, Nat.reduceSub, List.replicate_succ, List.replicate_zero, List.cons_append, List.nil_append]
  refine AWp_seqK fun Y0 y0 => ?_
  refine AWp_region ?_
  simp only [↓bO, go_sem, seval, Tok.cells, qC]
  refine y0 _ ?_
  try clear y0 Y0
  refine AWp_seqK fun Y0 y0 => ?_
  refine AWp_seqK fun Y1 y1 => ?_
  refine AWp_region ?_
  iterate 4 (refine aops_chunk 1 fun Q0 q0 => ?_; simp only [↓bO, go_sem, seval, Tok.cells, qC]; refine q0 _ ?_; clear q0 Q0; simp only [go_sem])
  simp only [↓bO, go_sem, seval, Tok.cells, qC]
  refine y1 _ ?_
  try clear y1 Y1
  refine AWp_cond rfl (fun hb9 => ?_) (fun hb9 => ?_)
  ·
   refine AWp_seqK fun Y1 y1 => ?_
   refine AWp_region ?_
   simp only [↓bO, go_sem, seval, Tok.cells, qC]
   refine y1 _ ?_
   try clear y1 Y1
   refine AWp_ret ?_
   try simp only [thenQ, blockQ, noGotoQ, retQ, aRes, tupOf, bS, bA]
   refine ⟨_, _, ⟨rfl, rfl⟩, .v _ _, qUnd (by omega) _ _ _ _, ?_, ?_, by omega⟩
   · exact Le.refl _
   · first | exact ⟨0, rfl, rfl⟩ | exact ⟨1, rfl, rfl⟩ | exact ⟨2, rfl, rfl⟩ | exact ⟨3, rfl, rfl⟩
  ·
   exact absurd hb9 (by simp [he])
theorem whole_s (l : List Tok) (m : Int) (hl : l.length ≤ 1048576) (f : Nat) (ih : ∀ g, g ≤ f → WholeOk l m g) (i lv : Int) (hi : lft l i < f + 1) (hlv : -1000000 ≤ lv) (hlv2 : lv + lft l i ≤ 1000000) : RCalls 26 [.ptr 0 0, .v (.int .i64 lv)] l m i 0 (.agg (rdP l m (f + 1) none i lv).1.cells) (rdP l m (f + 1) none i lv).2.1 (rdP l m (f + 1) none i lv).2.2 := by
  refine ACalls.clean (C := fun r os' => r = _ ∧ os' = _) ?_
  refine ACalls_intro Tryd.func26 (by kernel_rfl) rfl (by rw [Tryd.ntmps26]; simp) (fun hm => ?_)
  simp only [Tryd.ntmps26, Tryd.results26, List.length_cons, List.length_nil, Nat.reduceAdd, Nat.reduceSub, List.replicate_succ, List.replicate_zero, List.cons_append, List.nil_append]
  have hw0 : IntKind.i64.wrap (lv + 1) = lv + 1 := wrap_in (by omega) (by omega)
  refine AWp_seqK fun Y0 y0 => ?_
  refine AWp_region ?_
  simp only [↓bO, go_sem, seval, Tok.cells, rC]
  refine y0 _ ?_
  try clear y0 Y0
  refine AWp_seqK fun Y0 y0 => ?_
  refine AWp_region ?_
  iterate 7 (refine aops_chunk 1 fun Q0 q0 => ?_; simp only [↓bO, go_sem, seval, Tok.cells, rC]; refine q0 _ ?_; clear q0 Q0; simp only [go_sem])
  simp only [↓bO, go_sem, seval, Tok.cells, rC]
  obtain ⟨e0, hE⟩ : ∃ e0, (if decide (lv > m) = true ∧ (0 : Int) = 0 then (4 : Int) else 0) = e0 := ⟨_, rfl⟩
  have hf := fail_c l m i 0 (decide (lv > m)) 4
  rw [hE] at hf
  refine RCalls.at (k := 0) (hf) ?_ (.tup .nil) rfl (by first | omega | (simp only; omega)) ?_
  · exact ⟨.ptr rfl, .v _, .v _, trivial⟩
  simp only [putO, Nat.reduceEqDiff, ↓reduceIte]
  try simp only [bS, bA, thenQ, blockQ, noGotoQ]
  refine y0 _ ?_
  try clear y0 Y0
  refine AWp_seqK fun Y0 y0 => ?_
  refine AWp_region ?_
  iterate 2 (refine aops_chunk 1 fun Q0 q0 => ?_; simp only [↓bO, go_sem, seval, Tok.cells, rC]; refine q0 _ ?_; clear q0 Q0; simp only [go_sem])
  simp only [↓bO, go_sem, seval, Tok.cells, rC]
  refine y0 _ ?_
  try clear y0 Y0
  refine AWp_joinE (σ := Ty × Int × Int) (mB 58 51) (fun j => []) (fun j => [(2, .cells 25 j.1.cells), (0, .cells 65 (rC l m j.2.1 j.2.2))]) (fun j => ¬ m < lv ∧ bsP l m f i lv = j) ?_ (fun j hj => ?_)
  ·
   refine AWp_block ?_
   refine AWp_weak (Weak.recell (id := 2) (t := 25) [.v (.int .i64 0), .v (.int .i64 0), .sl 3 []] rfl ⟨.refl _, .refl _, Le.slNil 3, trivial⟩) ?_
   simp only [putO, Nat.reduceEqDiff, ↓reduceIte]
   refine AWp_seqK fun Y0 y0 => ?_
   refine AWp_region ?_
   iterate 5 (refine aops_chunk 1 fun Q0 q0 => ?_; simp only [↓bO, go_sem, seval, Tok.cells, rC]; refine q0 _ ?_; clear q0 Q0; simp only [go_sem])
   simp only [↓bO, go_sem, seval, Tok.cells, rC]
   refine y0 _ ?_
   try clear y0 Y0
   refine AWp_cond rfl (fun hb17 => ?_) (fun hb17 => ?_)
   ·
    obtain ⟨hd, rfl⟩ : m < lv ∧ e0 = 4 := (deep_e hE).resolve_right fun h => by simp [h.2] at hb17
    refine AWp_seqK fun Y0 y0 => ?_
    refine AWp_region ?_
    refine aops_chunk 1 fun Q0 q0 => ?_
    simp only [↓bO, go_sem, seval, Tok.cells, rC]
    refine q0 _ ?_
    clear q0 Q0
    simp only [go_sem]
    simp only [↓bO, go_sem, seval, Tok.cells, rC]
    refine y0 _ ?_
    try clear y0 Y0
    refine AWp_ret ?_
    try simp only [thenQ, blockQ, noGotoQ, retQ, aRes, tupOf, bS, bA, aLoad, getO, pack, bL, Nat.reduceAdd, Nat.reduceLeDiff, Nat.reduceEqDiff, ↓reduceIte, ti25, tyX, Tok.cells, List.length_map, rC]
    rw [rdP_none, if_pos hd]
    refine ⟨_, _, ⟨rfl, rfl⟩, .data (Ty.dataAgg _), rUnd (by omega) _ _ _ _, ?_, ?_, by omega⟩
    · first | exact Le.refl _ | (simp only [zTy, Ty.cells_eq, Ty.k, Ty.n, Ty.ps, List.map_cons, List.map_nil]; exact Le.refl _)
    · exact ⟨2, rfl, rfl⟩
   ·
    obtain ⟨hd, rfl⟩ : ¬ m < lv ∧ e0 = 0 := (deep_e hE).resolve_left fun h => by simp [h.2] at hb17
    refine AWp_seqK fun Y0 y0 => ?_
    refine AWp_region ?_
    refine aops_chunk 1 fun Q0 q0 => ?_
    simp only [↓bO, go_sem, seval, Tok.cells, rC, hw0]
    refine q0 _ ?_
    clear q0 Q0
    simp only [go_sem]
    refine aops_chunk 1 fun Q0 q0 => ?_
    simp only [↓bO, go_sem, seval, Tok.cells, rC, hw0]
    refine RCalls.at (k := 0) (sign_c l m i 0 3 bInt hl) ?_ (.v _) rfl (by first | omega | (simp only; omega)) ?_
    · exact ⟨.ptr rfl, .v _, .v _, trivial⟩
    simp only [putO, Nat.reduceEqDiff, ↓reduceIte]
    try simp only [bS, bA, thenQ, blockQ, noGotoQ]
    refine q0 _ ?_
    clear q0 Q0
    simp only [go_sem]
    simp only [↓bO, go_sem, seval, Tok.cells, rC, hw0]
    refine y0 _ ?_
    try clear y0 Y0
    refine AWp_cond rfl (fun hb24 => ?_) (fun hb24 => ?_)
    ·
     have hA : isT l i 3 bInt = true := hb24
     simp only [hA, if_true]
     have hbs : bsP l m f i lv = (.mk 2 0 [], i + 1, 0) := by (unfold bsP; rw [if_pos hA])
     refine AWp_region ?_
     refine aops_chunk 1 fun Q0 q0 => ?_
     simp only [↓bO, go_sem, seval, Tok.cells, rC, hw0]
     refine q0 _ ?_
     clear q0 Q0
     simp only [go_sem]
     simp only [↓bO, go_sem, seval, Tok.cells, rC, hw0]
     try simp only [maskL, setsL, putsO, putO, mB, List.set_cons_zero, List.set_cons_succ, seval]
     refine ⟨(bsP l m f i lv), ⟨hd, rfl⟩, ?_⟩
     rw [hbs]
     try simp only [zTy, Ty.cells_eq (Ty.mk 0 0 []), Ty.cells_eq (Ty.mk 2 0 []), Ty.cells_eq (Ty.mk 3 0 []), Ty.k, Ty.n, Ty.ps, List.map_nil]
     exact Weak.mk (by simp only [go_sem, Le.refl, Le.any]) (fun _ _ h => h) rfl rfl
    ·
     have hA : isT l i 3 bInt = false := hb24
     simp only [hA, Bool.false_eq_true, if_false]
     refine AWp_seqK fun Y0 y0 => ?_
     refine AWp_region ?_
     refine aops_chunk 1 fun Q0 q0 => ?_
     simp only [↓bO, go_sem, seval, Tok.cells, rC, hw0]
     refine q0 _ ?_
     clear q0 Q0
     simp only [go_sem]
     refine aops_chunk 1 fun Q0 q0 => ?_
     simp only [↓bO, go_sem, seval, Tok.cells, rC, hw0]
     refine RCalls.at (k := 0) (sign_c l m i 0 3 bBool hl) ?_ (.v _) rfl (by first | omega | (simp only; omega)) ?_
     · exact ⟨.ptr rfl, .v _, .v _, trivial⟩
     simp only [putO, Nat.reduceEqDiff, ↓reduceIte]
     try simp only [bS, bA, thenQ, blockQ, noGotoQ]
     refine q0 _ ?_
     clear q0 Q0
     simp only [go_sem]
     simp only [↓bO, go_sem, seval, Tok.cells, rC, hw0]
     refine y0 _ ?_
     try clear y0 Y0
     refine AWp_cond rfl (fun hb28 => ?_) (fun hb28 => ?_)
     ·
      have hB : isT l i 3 bBool = true := hb28
      simp only [hB, if_true]
      have hbs : bsP l m f i lv = (.mk 3 0 [], i + 1, 0) := by (unfold bsP; rw [if_neg (by simp [hA]), if_pos hB])
      refine AWp_region ?_
      refine aops_chunk 1 fun Q0 q0 => ?_
      simp only [↓bO, go_sem, seval, Tok.cells, rC, hw0]
      refine q0 _ ?_
      clear q0 Q0
      simp only [go_sem]
      simp only [↓bO, go_sem, seval, Tok.cells, rC, hw0]
      try simp only [maskL, setsL, putsO, putO, mB, List.set_cons_zero, List.set_cons_succ, seval]
      refine ⟨(bsP l m f i lv), ⟨hd, rfl⟩, ?_⟩
      rw [hbs]
      try simp only [zTy, Ty.cells_eq (Ty.mk 0 0 []), Ty.cells_eq (Ty.mk 2 0 []), Ty.cells_eq (Ty.mk 3 0 []), Ty.k, Ty.n, Ty.ps, List.map_nil]
      exact Weak.mk (by simp only [go_sem, Le.refl, Le.any]) (fun _ _ h => h) rfl rfl
     ·
      have hB : isT l i 3 bBool = false := hb28
      simp only [hB, Bool.false_eq_true, if_false]
      refine AWp_seqK fun Y0 y0 => ?_
      refine AWp_region ?_
      refine aops_chunk 1 fun Q0 q0 => ?_
      simp only [↓bO, go_sem, seval, Tok.cells, rC, hw0]
      refine q0 _ ?_
      clear q0 Q0
      simp only [go_sem]
      refine aops_chunk 1 fun Q0 q0 => ?_
      simp only [↓bO, go_sem, seval, Tok.cells, rC, hw0]
      refine RCalls.at (k := 0) (sign_c l m i 0 4 bOpen hl) ?_ (.v _) rfl (by first | omega | (simp only; omega)) ?_
      · exact ⟨.ptr rfl, .v _, .v _, trivial⟩
      simp only [putO, Nat.reduceEqDiff, ↓reduceIte]
      try simp only [bS, bA, thenQ, blockQ, noGotoQ]
      refine q0 _ ?_
      clear q0 Q0
      simp only [go_sem]
      simp only [↓bO, go_sem, seval, Tok.cells, rC, hw0]
      refine y0 _ ?_
      try clear y0 Y0
      refine AWp_cond rfl (fun hb32 => ?_) (fun hb32 => ?_)
      ·
       have hC : isT l i 4 bOpen = true := hb32
       simp only [hC, if_true]
       have hbs : bsP l m f i lv = lsP l m f (i + 1) (lv + 1) := by (unfold bsP; rw [if_neg (by simp [hA]), if_neg (by simp [hB]), if_pos hC])
       have hC2 := lft_next hC
       refine AWp_region ?_
       iterate 5 (refine aops_chunk 1 fun Q0 q0 => ?_; simp only [↓bO, go_sem, seval, Tok.cells, rC, hw0]; refine q0 _ ?_; clear q0 Q0; simp only [go_sem])
       refine aops_chunk 1 fun Q0 q0 => ?_
       simp only [↓bO, go_sem, seval, Tok.cells, rC, hw0]
       refine RCalls.at (k := 0) (list_c l m f hl ih (i + 1) (lv + 1) (by omega) (by omega) (by omega)) ?_ (Ty.dataAgg _) rfl (by first | omega | (simp only; omega)) ?_
       · exact ⟨.ptr rfl, .v _, .mth ⟨.ptr rfl, trivial⟩, trivial⟩
       simp only [putO, Nat.reduceEqDiff, ↓reduceIte]
       try simp only [bS, bA, thenQ, blockQ, noGotoQ]
       refine q0 _ ?_
       clear q0 Q0
       simp only [go_sem]
       simp only [↓bO, go_sem, seval, Tok.cells, rC, hw0]
       try simp only [maskL, setsL, putsO, putO, mB, List.set_cons_zero, List.set_cons_succ, seval]
       refine ⟨(bsP l m f i lv), ⟨hd, rfl⟩, ?_⟩
       rw [hbs]
       try simp only [zTy, Ty.cells_eq (Ty.mk 0 0 []), Ty.cells_eq (Ty.mk 2 0 []), Ty.cells_eq (Ty.mk 3 0 []), Ty.k, Ty.n, Ty.ps, List.map_nil]
       exact Weak.mk (by simp only [go_sem, Le.refl, Le.any]) (fun _ _ h => h) rfl rfl
      ·
       have hC : isT l i 4 bOpen = false := hb32
       simp only [hC, Bool.false_eq_true, if_false]
       have hbs : bsP l m f i lv = (zTy, i, 3) := by (unfold bsP; rw [if_neg (by simp [hA]), if_neg (by simp [hB]), if_neg (by simp [hC])])
       refine AWp_region ?_
       refine aops_chunk 1 fun Q0 q0 => ?_
       simp only [↓bO, go_sem, seval, Tok.cells, rC, hw0]
       refine q0 _ ?_
       clear q0 Q0
       simp only [go_sem]
       simp only [↓bO, go_sem, seval, Tok.cells, rC, hw0]
       refine RCalls.at (k := 0) (fail_c l m i 0 true 3) ?_ (.tup .nil) rfl (by first | omega | (simp only; omega)) ?_
       · exact ⟨.ptr rfl, .v _, .v _, trivial⟩
       simp only [putO, Nat.reduceEqDiff, ↓reduceIte]
       rw [if_pos (by simp)]
       try simp only [bS, bA, thenQ, blockQ, noGotoQ]
       try simp only [maskL, setsL, putsO, putO, mB, List.set_cons_zero, List.set_cons_succ, seval]
       refine ⟨(bsP l m f i lv), ⟨hd, rfl⟩, ?_⟩
       rw [hbs]
       try simp only [zTy, Ty.cells_eq (Ty.mk 0 0 []), Ty.cells_eq (Ty.mk 2 0 []), Ty.cells_eq (Ty.mk 3 0 []), Ty.k, Ty.n, Ty.ps, List.map_nil]
       exact Weak.mk (by simp only [go_sem, Le.refl, Le.any]) (fun _ _ h => h) rfl rfl
  simp only [maskL, setsL, putsO, putO, mB, List.set_cons_zero, List.set_cons_succ, seval]
  obtain ⟨hd, hj⟩ := hj
  have hjm : lft l j.2.1 ≤ lft l i := lft_le (by rw [← hj]; exact bsP_mono _ _ _ _ _)
  refine AWp_seqK fun Y0 y0 => ?_
  refine AWp_seqK fun Y1 y1 => ?_
  refine AWp_region ?_
  iterate 6 (refine aops_chunk 1 fun Q0 q0 => ?_; simp only [↓bO, go_sem, seval, Tok.cells, rC]; refine q0 _ ?_; clear q0 Q0; simp only [go_sem])
  refine aops_case 46 rfl (fun hc46 => ?_) (fun hc46 => ?_)
  ·
   simp only [List.set_cons_zero, List.set_cons_succ]
   have hj0 : j.2.2 = 0 := by simpa using hc46
   simp only [hj0]
   refine aops_chunk 1 fun Q0 q0 => ?_
   simp only [↓bO, go_sem, seval, Tok.cells, rC, hj0]
   refine q0 _ ?_
   clear q0 Q0
   simp only [go_sem]
   refine aops_chunk 1 fun Q0 q0 => ?_
   simp only [↓bO, go_sem, seval, Tok.cells, rC, hj0]
   refine RCalls.at (k := 0) (sign_c l m j.2.1 0 4 bArrow hl) ?_ (.v _) rfl (by first | omega | (simp only; omega)) ?_
   · exact ⟨.ptr rfl, .v _, .v _, trivial⟩
   simp only [putO, Nat.reduceEqDiff, ↓reduceIte]
   try simp only [bS, bA, thenQ, blockQ, noGotoQ]
   refine q0 _ ?_
   clear q0 Q0
   simp only [go_sem]
   simp only [↓bO, go_sem, seval, Tok.cells, rC, hj0]
   refine y1 _ ?_
   try clear y1 Y1
   refine AWp_cond rfl (fun hb49 => ?_) (fun hb49 => ?_)
   ·
    have hD : isT l j.2.1 4 bArrow = true := hb49
    simp only [hD, if_true]
    refine AAny_start [] 8 rfl mixed (trivial) rfl ?_
    dsimp only
    refine AAny_takeK 1 rfl (by kernel_rfl) (by kernel_rfl) (by kernel_rfl) (fun _ _ h => h) fun Q0 q0 => ?_
    simp only [↓bO, go_sem, seval, Tok.cells, rC, hj0, hw0]
    refine q0 _ ?_
    clear q0 Q0
    refine AAny_takeK 2 rfl (by kernel_rfl) (by kernel_rfl) (by kernel_rfl) (fun _ _ h => h) fun Q0 q0 => ?_
    simp only [↓bO, go_sem, seval, Tok.cells, rC, hj0, hw0]
    refine q0 _ ?_
    clear q0 Q0
    refine AAny_takeI 3 rfl rfl (by kernel_rfl) (by kernel_rfl) (by kernel_rfl) (fun _ _ h => h) fun Q0 q0 => ?_
    simp only [↓bO, go_sem, seval, aInt, Tok.cells, rC, hj0, hw0]
    refine q0 _ ?_
    clear q0 Q0
    refine AAny_all2 (i := 0) (j := 4) (by kernel_rfl) ?_ ?_
    ·
     refine aAt_op rfl rfl fun Q0 q0 => ?_
     simp only [↓bO, go_sem, seval, Tok.cells, rC, hj0, hw0]
     refine q0 _ ⟨trivial, ?_⟩
     clear q0 Q0
     refine AAny_all1 (i := 4) (by kernel_rfl) ?_
     ·
      refine aAt_op rfl rfl fun Q0 q0 => ?_
      simp only [↓bO, go_sem, seval, Tok.cells, rC, hj0, hw0]
      refine RCalls.at (k := 0) (ih f (Nat.le_refl f) (j.2.1 + 1) (lv + 1) (by have := lft_next hD; omega) (by omega) (by have := lft_next hD; omega)) ?_ (Ty.dataAgg _) rfl (by first | omega | (simp only; omega)) ?_
      · exact ⟨.ptr rfl, .v _, trivial⟩
      simp only [putO, Nat.reduceEqDiff, ↓reduceIte]
      try simp only [bS, bA]
      refine q0 _ ⟨trivial, ?_⟩
      clear q0 Q0
      refine AAny_all1 (i := 5) (by kernel_rfl) ?_
      ·
       refine aAt_op rfl rfl fun Q0 q0 => ?_
       simp only [↓bO, go_sem, seval, ↓bs2_1, ↓bs2_2, ↓bs2_3, ↓bs2_4, ↓bs2_5, ↓bs2_6, ↓bs2_7, ↓bs2_8, ↓bs2_9, ↓bs2_10, ↓bs2_11, ↓bs2_12, Tok.cells, rC, hj0, hw0]
       refine q0 _ ⟨trivial, ?_⟩
       clear q0 Q0
       refine AAny_all1 (i := 6) (by kernel_rfl) ?_
       ·
        refine aAt_op rfl rfl fun Q0 q0 => ?_
        simp only [↓bO, go_sem, seval, Tok.cells, rC, hj0, hw0]
        refine q0 _ ⟨trivial, ?_⟩
        clear q0 Q0
        refine AAny_all1 (i := 7) (by kernel_rfl) ?_
        ·
         refine aAt_op rfl rfl fun Q0 q0 => ?_
         simp only [↓bO, go_sem, seval, Tok.cells, rC, hj0, hw0]
         refine q0 _ ⟨trivial, ?_⟩
         clear q0 Q0
         refine AAny_done (by kernel_rfl) ?_
         simp only [thenQ, blockQ, noGotoQ]
         refine y0 _ ?_
         try clear y0 Y0
         refine AWp_seqK fun Y0 y0 => ?_
         refine AWp_region ?_
         refine aops_chunk 1 fun Q0 q0 => ?_
         simp only [↓bO, go_sem, seval, Tok.cells, rC, hj0]
         refine q0 _ ?_
         clear q0 Q0
         simp only [go_sem]
         simp only [↓bO, go_sem, seval, Tok.cells, rC, hj0]
         refine y0 _ ?_
         try clear y0 Y0
         refine AWp_ret ?_
         try simp only [thenQ, blockQ, noGotoQ, retQ, aRes, tupOf, bS, bA, aLoad, getO, pack, bL, Nat.reduceAdd, Nat.reduceLeDiff, Nat.reduceEqDiff, ↓reduceIte, ti25, tyX, Tok.cells, List.length_map, rC, hj0]
         rw [rdP_none, if_neg hd, hj]
         rw [arP, if_pos hj0, if_pos hD]
         refine ⟨_, _, ⟨rfl, rfl⟩, .data (Ty.dataAgg _), rUnd (by omega) _ _ _ _, ?_, ?_, by omega⟩
         · first | exact Le.refl _ | (simp only [zTy, Ty.cells_eq, Ty.k, Ty.n, Ty.ps, List.map_cons, List.map_nil]; exact Le.refl _)
         · exact ⟨2, rfl, rfl⟩
    ·
     refine aAt_op rfl rfl fun Q0 q0 => ?_
     simp only [↓bO, go_sem, seval, Tok.cells, rC, hj0, hw0]
     refine RCalls.at (k := 0) (ih f (Nat.le_refl f) (j.2.1 + 1) (lv + 1) (by have := lft_next hD; omega) (by omega) (by have := lft_next hD; omega)) ?_ (Ty.dataAgg _) rfl (by first | omega | (simp only; omega)) ?_
     · exact ⟨.ptr rfl, .v _, trivial⟩
     simp only [putO, Nat.reduceEqDiff, ↓reduceIte]
     try simp only [bS, bA]
     refine q0 _ ⟨trivial, ?_⟩
     clear q0 Q0
     refine AAny_all1 (i := 0) (by kernel_rfl) ?_
     ·
      refine aAt_op rfl rfl fun Q0 q0 => ?_
      simp only [↓bO, go_sem, seval, Tok.cells, rC, hj0, hw0]
      refine q0 _ ⟨trivial, ?_⟩
      clear q0 Q0
      refine AAny_all1 (i := 5) (by kernel_rfl) ?_
      ·
       refine aAt_op rfl rfl fun Q0 q0 => ?_
       simp only [↓bO, go_sem, seval, ↓bs2_1, ↓bs2_2, ↓bs2_3, ↓bs2_4, ↓bs2_5, ↓bs2_6, ↓bs2_7, ↓bs2_8, ↓bs2_9, ↓bs2_10, ↓bs2_11, ↓bs2_12, Tok.cells, rC, hj0, hw0]
       refine q0 _ ⟨trivial, ?_⟩
       clear q0 Q0
       refine AAny_all1 (i := 6) (by kernel_rfl) ?_
       ·
        refine aAt_op rfl rfl fun Q0 q0 => ?_
        simp only [↓bO, go_sem, seval, Tok.cells, rC, hj0, hw0]
        refine q0 _ ⟨trivial, ?_⟩
        clear q0 Q0
        refine AAny_all1 (i := 7) (by kernel_rfl) ?_
        ·
         refine aAt_op rfl rfl fun Q0 q0 => ?_
         simp only [↓bO, go_sem, seval, Tok.cells, rC, hj0, hw0]
         refine q0 _ ⟨trivial, ?_⟩
         clear q0 Q0
         refine AAny_done (by kernel_rfl) ?_
         simp only [thenQ, blockQ, noGotoQ]
         refine y0 _ ?_
         try clear y0 Y0
         refine AWp_seqK fun Y0 y0 => ?_
         refine AWp_region ?_
         refine aops_chunk 1 fun Q0 q0 => ?_
         simp only [↓bO, go_sem, seval, Tok.cells, rC, hj0]
         refine q0 _ ?_
         clear q0 Q0
         simp only [go_sem]
         simp only [↓bO, go_sem, seval, Tok.cells, rC, hj0]
         refine y0 _ ?_
         try clear y0 Y0
         refine AWp_ret ?_
         try simp only [thenQ, blockQ, noGotoQ, retQ, aRes, tupOf, bS, bA, aLoad, getO, pack, bL, Nat.reduceAdd, Nat.reduceLeDiff, Nat.reduceEqDiff, ↓reduceIte, ti25, tyX, Tok.cells, List.length_map, rC, hj0]
         rw [rdP_none, if_neg hd, hj]
         rw [arP, if_pos hj0, if_pos hD]
         refine ⟨_, _, ⟨rfl, rfl⟩, .data (Ty.dataAgg _), rUnd (by omega) _ _ _ _, ?_, ?_, by omega⟩
         · first | exact Le.refl _ | (simp only [zTy, Ty.cells_eq, Ty.k, Ty.n, Ty.ps, List.map_cons, List.map_nil]; exact Le.refl _)
         · exact ⟨2, rfl, rfl⟩
   ·
    have hD : isT l j.2.1 4 bArrow = false := hb49
    simp only [hD, Bool.false_eq_true, if_false]
    refine AWp_skip ?_
    try simp only [thenQ, blockQ, noGotoQ]
    refine y0 _ ?_
    try clear y0 Y0
    refine AWp_seqK fun Y0 y0 => ?_
    refine AWp_region ?_
    refine aops_chunk 1 fun Q0 q0 => ?_
    simp only [↓bO, go_sem, seval, Tok.cells, rC, hj0]
    refine q0 _ ?_
    clear q0 Q0
    simp only [go_sem]
    simp only [↓bO, go_sem, seval, Tok.cells, rC, hj0]
    refine y0 _ ?_
    try clear y0 Y0
    refine AWp_ret ?_
    try simp only [thenQ, blockQ, noGotoQ, retQ, aRes, tupOf, bS, bA, aLoad, getO, pack, bL, Nat.reduceAdd, Nat.reduceLeDiff, Nat.reduceEqDiff, ↓reduceIte, ti25, tyX, Tok.cells, List.length_map, rC, hj0]
    rw [rdP_none, if_neg hd, hj]
    rw [arP, if_pos hj0, if_neg (by simp [hD]), hj0]
    refine ⟨_, _, ⟨rfl, rfl⟩, .data (Ty.dataAgg _), rUnd (by omega) _ _ _ _, ?_, ?_, by omega⟩
    · first | exact Le.refl _ | (simp only [zTy, Ty.cells_eq, Ty.k, Ty.n, Ty.ps, List.map_cons, List.map_nil]; exact Le.refl _)
    · exact ⟨2, rfl, rfl⟩
  ·
   simp only [List.set_cons_zero, List.set_cons_succ]
   have hj0 : ¬ j.2.2 = 0 := by simpa using hc46
   iterate 2 (refine aops_chunk 1 fun Q0 q0 => ?_; simp only [↓bO, go_sem, seval, Tok.cells, rC]; refine q0 _ ?_; clear q0 Q0; simp only [go_sem])
   simp only [↓bO, go_sem, seval, Tok.cells, rC]
   refine y1 _ ?_
   try clear y1 Y1
   refine AWp_cond (b := false) (by first | exact rfl | exact congrArg (fun b => AV.v (.bool b)) hb49) (fun h => (by cases h)) (fun _ => ?_)
   refine AWp_skip ?_
   try simp only [thenQ, blockQ, noGotoQ]
   refine y0 _ ?_
   try clear y0 Y0
   refine AWp_seqK fun Y0 y0 => ?_
   refine AWp_region ?_
   refine aops_chunk 1 fun Q0 q0 => ?_
   simp only [↓bO, go_sem, seval, Tok.cells, rC]
   refine q0 _ ?_
   clear q0 Q0
   simp only [go_sem]
   simp only [↓bO, go_sem, seval, Tok.cells, rC]
   refine y0 _ ?_
   try clear y0 Y0
   refine AWp_ret ?_
   try simp only [thenQ, blockQ, noGotoQ, retQ, aRes, tupOf, bS, bA, aLoad, getO, pack, bL, Nat.reduceAdd, Nat.reduceLeDiff, Nat.reduceEqDiff, ↓reduceIte, ti25, tyX, Tok.cells, List.length_map, rC]
   rw [rdP_none, if_neg hd, hj]
   rw [arP, if_neg hj0]
   refine ⟨_, _, ⟨rfl, rfl⟩, .data (Ty.dataAgg _), rUnd (by omega) _ _ _ _, ?_, ?_, by omega⟩
   · first | exact Le.refl _ | (simp only [zTy, Ty.cells_eq, Ty.k, Ty.n, Ty.ps, List.map_cons, List.map_nil]; exact Le.refl _)
   · exact ⟨2, rfl, rfl⟩
theorem whole_c (l : List Tok) (m : Int) (hl : l.length ≤ 1048576) : ∀ f, WholeOk l m f := by
  intro f
  induction f using Nat.strongRecOn with
  | _ f ih =>
    intro i lv hi hlv hlv2
    match f, ih, hi with
    | 0, _, hi => omega
    | f + 1, ih, hi => exact whole_s l m hl f (fun g hg => ih g (by omega)) i lv hi hlv hlv2
theorem zTyA_le : Le (.agg [.v (.int .i64 0), .v (.int .i64 0), .v (.slice none 0 0)]) (.agg zTy.cells) := by
  rw [zTy, Ty.cells_eq]; exact Le.agg ⟨.refl _, .refl _, Le.slNil 3, trivial⟩
abbrev rdF (l : List Tok) (m i lv : Int) : Ty × Int × Int := rd l m (l.length + 1) none i lv
theorem rdF_lt (l : List Tok) (i : Int) : lft l i < l.length + 1 := by have := lft_len l i; omega
theorem rdP_eq {l : List Tok} {m : Int} {f : Nat} {i lv : Int} (h : (rdP l m f none i lv).2.2 = 0) : rdP l m f none i lv = rd l m f none i lv :=
  (rdP_rd l m f none i lv (fun ps h => by cases h)).2 (by rw [← rdP_pos]; exact h)
theorem Ty.sameL_refl : ∀ ps : List Ty, (∀ p ∈ ps, p.same p = true) → Ty.sameL ps ps = true := fun ps h => by
  induction ps with
  | nil => rfl
  | cons p ps ih => rw [Ty.sameL, h p (by simp), ih fun q hq => h q (by simp [hq])]; rfl
theorem Ty.same_refl : ∀ t : Ty, t.same t = true := by
  refine Ty.ind fun t ih => ?_
  cases t with
  | mk k n ps => rw [Ty.same, Ty.sameL_refl ps ih]; simp
theorem Read_pure (l : List Tok) (m i lv : Int) (hl : l.length ≤ 100000) (hlv : -1000000 ≤ lv) (hlv2 : lv ≤ 800000) : APure Tryd.prog 15 [.sl 4 (l.map Tok.cells), .v (.int .i64 i), .v (.int .i64 lv), .v (.int .i64 m)] (.tup [.agg (rdF l m i lv).1.cells, .v (.int .i64 (rdF l m i lv).2.1), .v (.int .i64 (rdF l m i lv).2.2)]) := by
  refine APure.mkL (.cons (Tok.dataSl l) (.cons (.v _) (.cons (.v _) (.cons (.v _) .nil)))) (.tup (.cons (Ty.dataAgg _) (.cons (.v _) (.cons (.v _) .nil)))) ?_
  refine ACalls_intro Tryd.func15 (by kernel_rfl) rfl (by rw [Tryd.ntmps15]; simp) (fun hm => ?_)
  simp only [Tryd.ntmps15, Tryd.results15, List.length_cons, List.length_nil, Nat.reduceAdd, Nat.reduceSub, List.replicate_succ, List.replicate_zero, List.cons_append, List.nil_append]
  refine AWp_seqK fun Y0 y0 => ?_
  refine AWp_region ?_
  iterate 2 (refine aops_chunk 1 fun Q0 q0 => ?_; simp only [↓bO, go_sem, seval, Tok.cells, rC]; refine q0 _ ?_; clear q0 Q0; simp only [go_sem])
  simp only [↓bO, go_sem, seval, Tok.cells, rC]
  refine y0 _ ?_
  try clear y0 Y0
  refine AWp_seqK fun Y0 y0 => ?_
  refine AWp_region ?_
  iterate 5 (refine aops_chunk 1 fun Q0 q0 => ?_; simp only [↓bO, go_sem, seval, Tok.cells, rC]; refine q0 _ ?_; clear q0 Q0; simp only [go_sem])
  simp only [↓bO, go_sem, seval, Tok.cells, rC]
  refine y0 _ ?_
  try clear y0 Y0
  refine AWp_seqK fun Y0 y0 => ?_
  refine AWp_region ?_
  iterate 2 (refine aops_chunk 1 fun Q0 q0 => ?_; simp only [↓bO, go_sem, seval, Tok.cells, rC]; refine q0 _ ?_; clear q0 Q0; simp only [go_sem])
  refine aops_chunk 1 fun Q0 q0 => ?_
  simp only [↓bO, go_sem, seval, Tok.cells, rC]
  refine RCalls.at (k := 1) (whole_c l m (by omega) (l.length + 1) i lv (rdF_lt l i) hlv (by have := lft_len l i; omega)) ?_ (Ty.dataAgg _) rfl (by first | omega | (simp only; omega)) ?_
  · exact ⟨.ptr rfl, .v _, trivial⟩
  simp only [putO, Nat.reduceEqDiff, ↓reduceIte]
  try simp only [bS, bA, thenQ, blockQ, noGotoQ]
  refine q0 _ ?_
  clear q0 Q0
  simp only [go_sem]
  refine aops_chunk 1 fun Q0 q0 => ?_
  simp only [↓bO, go_sem, seval, Tok.cells, rC]
  refine q0 _ ?_
  clear q0 Q0
  simp only [go_sem]
  simp only [↓bO, go_sem, seval, Tok.cells, rC]
  refine y0 _ ?_
  try clear y0 Y0
  refine AWp_seqK fun Y0 y0 => ?_
  refine AWp_seqK fun Y1 y1 => ?_
  refine AWp_region ?_
  iterate 4 (refine aops_chunk 1 fun Q0 q0 => ?_; simp only [↓bO, go_sem, seval, Tok.cells, rC]; refine q0 _ ?_; clear q0 Q0; simp only [go_sem])
  simp only [↓bO, go_sem, seval, Tok.cells, rC]
  refine y1 _ ?_
  try clear y1 Y1
  refine AWp_cond rfl (fun hb25 => ?_) (fun hb25 => ?_)
  ·
   have he : ¬ (rdP l m (l.length + 1) none i lv).2.2 = 0 := by simpa using hb25
   refine AWp_seqK fun Y1 y1 => ?_
   refine AAny_start [(1, 1, [.v (.int .i64 (rdP l m (l.length + 1) none i lv).2.1)]), (1, 3, [.v (.int .i64 (rdP l m (l.length + 1) none i lv).2.2)])] 12 rfl mixed (⟨⟨_, _, rfl, by simp, rfl, trivial, trivial⟩, ⟨⟨_, _, rfl, by simp, rfl, trivial, trivial⟩, trivial⟩⟩) rfl ?_
   dsimp only
   refine AAny_takeK 1 rfl (by kernel_rfl) (by kernel_rfl) (by kernel_rfl) (fun _ _ h => h) fun Q0 q0 => ?_
   simp only [↓bO, go_sem, seval, Tok.cells, rC]
   refine q0 _ ?_
   clear q0 Q0
   refine AAny_takeK 2 rfl (by kernel_rfl) (by kernel_rfl) (by kernel_rfl) (fun _ _ h => h) fun Q0 q0 => ?_
   simp only [↓bO, go_sem, seval, Tok.cells, rC]
   refine q0 _ ?_
   clear q0 Q0
   refine AAny_takeK 3 rfl (by kernel_rfl) (by kernel_rfl) (by kernel_rfl) (fun _ _ h => h) fun Q0 q0 => ?_
   simp only [↓bO, go_sem, seval, Tok.cells, rC]
   refine q0 _ ?_
   clear q0 Q0
   refine AAny_loadK 4 0 rfl rfl (by kernel_rfl) (by kernel_rfl) (by kernel_rfl) (fun _ _ h => h) fun Q0 q0 => ?_
   simp only [↓bO, go_sem, seval, Tok.cells, rC]
   refine q0 _ ?_
   clear q0 Q0
   refine AAny_takeK 5 rfl (by kernel_rfl) (by kernel_rfl) (by kernel_rfl) (fun _ _ h => h) fun Q0 q0 => ?_
   simp only [↓bO, go_sem, seval, Tok.cells, rC]
   refine q0 _ ?_
   clear q0 Q0
   refine AAny_takeK 6 rfl (by kernel_rfl) (by kernel_rfl) (by kernel_rfl) (fun _ _ h => h) fun Q0 q0 => ?_
   simp only [↓bO, go_sem, seval, Tok.cells, rC]
   refine q0 _ ?_
   clear q0 Q0
   refine AAny_takeK 7 rfl (by kernel_rfl) (by kernel_rfl) (by kernel_rfl) (fun _ _ h => h) fun Q0 q0 => ?_
   simp only [↓bO, go_sem, seval, Tok.cells, rC]
   refine q0 _ ?_
   clear q0 Q0
   refine AAny_loadK 8 1 rfl rfl (by kernel_rfl) (by kernel_rfl) (by kernel_rfl) (fun _ _ h => h) fun Q0 q0 => ?_
   simp only [↓bO, go_sem, seval, Tok.cells, rC]
   refine q0 _ ?_
   clear q0 Q0
   refine AAny_all1 (i := 0) (by kernel_rfl) ?_
   ·
    refine aAt_op rfl rfl fun Q0 q0 => ?_
    simp only [↓bO, go_sem, seval, Tok.cells, rC]
    refine q0 _ ⟨⟨⟨_, _, rfl, by simp, rfl, trivial, trivial⟩, ⟨⟨_, _, rfl, by simp, rfl, trivial, trivial⟩, trivial⟩⟩, ?_⟩
    clear q0 Q0
    refine AAny_all1 (i := 9) (by kernel_rfl) ?_
    ·
     refine aAt_op rfl rfl fun Q0 q0 => ?_
     simp only [↓bO, go_sem, seval, Tok.cells, rC]
     refine q0 _ ⟨⟨⟨_, _, rfl, by simp, rfl, trivial, trivial⟩, ⟨⟨_, _, rfl, by simp, rfl, trivial, trivial⟩, trivial⟩⟩, ?_⟩
     clear q0 Q0
     refine AAny_takeK 10 rfl (by kernel_rfl) (by kernel_rfl) (by kernel_rfl) (fun _ _ h => h) fun Q0 q0 => ?_
     simp only [↓bO, go_sem, seval, Tok.cells, rC]
     refine q0 _ ?_
     clear q0 Q0
     refine AAny_takeK 11 rfl (by kernel_rfl) (by kernel_rfl) (by kernel_rfl) (fun _ _ h => h) fun Q0 q0 => ?_
     simp only [↓bO, go_sem, seval, Tok.cells, rC]
     refine q0 _ ?_
     clear q0 Q0
     refine AAny_done (by kernel_rfl) ?_
     simp only [thenQ, blockQ, noGotoQ]
     refine y1 _ ?_
     try clear y1 Y1
     refine AWp_ret ?_
     try simp only [thenQ, blockQ, noGotoQ, retQ, aRes, tupOf, bS, bA, aLoad, getO, pack, bL, Nat.reduceAdd, Nat.reduceLeDiff, Nat.reduceEqDiff, ↓reduceIte, ti25, tyX, Tok.cells, List.length_map, rC]
     have hz := rd_err l m (l.length + 1) none i lv (by rw [← rdP_pos]; exact he)
     have hp := rdP_pos l m (l.length + 1) i lv
     simp only [rdF, hz, ← hp]
     exact Le.tup ⟨zTyA_le, .refl _, .refl _, trivial⟩
  ·
   have he : (rdP l m (l.length + 1) none i lv).2.2 = 0 := by simpa using hb25
   refine AWp_skip ?_
   try simp only [thenQ, blockQ, noGotoQ]
   refine y0 _ ?_
   try clear y0 Y0
   refine AWp_seqK fun Y0 y0 => ?_
   refine AAny_start [(1, 1, [.v (.int .i64 (rdP l m (l.length + 1) none i lv).2.1)])] 8 rfl mixed (⟨⟨_, _, rfl, by simp, rfl, trivial, trivial⟩, trivial⟩) rfl ?_
   dsimp only
   refine AAny_takeK 1 rfl (by kernel_rfl) (by kernel_rfl) (by kernel_rfl) (fun _ _ h => h) fun Q0 q0 => ?_
   simp only [↓bO, go_sem, seval, Tok.cells, rC]
   refine q0 _ ?_
   clear q0 Q0
   refine AAny_takeK 2 rfl (by kernel_rfl) (by kernel_rfl) (by kernel_rfl) (fun _ _ h => h) fun Q0 q0 => ?_
   simp only [↓bO, go_sem, seval, Tok.cells, rC]
   refine q0 _ ?_
   clear q0 Q0
   refine AAny_takeK 3 rfl (by kernel_rfl) (by kernel_rfl) (by kernel_rfl) (fun _ _ h => h) fun Q0 q0 => ?_
   simp only [↓bO, go_sem, seval, Tok.cells, rC]
   refine q0 _ ?_
   clear q0 Q0
   refine AAny_loadK 4 0 rfl rfl (by kernel_rfl) (by kernel_rfl) (by kernel_rfl) (fun _ _ h => h) fun Q0 q0 => ?_
   simp only [↓bO, go_sem, seval, Tok.cells, rC]
   refine q0 _ ?_
   clear q0 Q0
   refine AAny_all1 (i := 0) (by kernel_rfl) ?_
   ·
    refine aAt_op rfl rfl fun Q0 q0 => ?_
    simp only [↓bO, go_sem, seval, Tok.cells, rC]
    refine q0 _ ⟨⟨⟨_, _, rfl, by simp, rfl, trivial, trivial⟩, trivial⟩, ?_⟩
    clear q0 Q0
    refine AAny_all1 (i := 5) (by kernel_rfl) ?_
    ·
     refine aAt_op rfl rfl fun Q0 q0 => ?_
     simp only [↓bO, go_sem, seval, Tok.cells, rC]
     refine q0 _ ⟨⟨⟨_, _, rfl, by simp, rfl, trivial, trivial⟩, trivial⟩, ?_⟩
     clear q0 Q0
     refine AAny_takeK 6 rfl (by kernel_rfl) (by kernel_rfl) (by kernel_rfl) (fun _ _ h => h) fun Q0 q0 => ?_
     simp only [↓bO, go_sem, seval, Tok.cells, rC]
     refine q0 _ ?_
     clear q0 Q0
     refine AAny_takeK 7 rfl (by kernel_rfl) (by kernel_rfl) (by kernel_rfl) (fun _ _ h => h) fun Q0 q0 => ?_
     simp only [↓bO, go_sem, seval, Tok.cells, rC]
     refine q0 _ ?_
     clear q0 Q0
     refine AAny_done (by kernel_rfl) ?_
     simp only [thenQ, blockQ, noGotoQ]
     refine y0 _ ?_
     try clear y0 Y0
     refine AWp_ret ?_
     try simp only [thenQ, blockQ, noGotoQ, retQ, aRes, tupOf, bS, bA, aLoad, getO, pack, bL, Nat.reduceAdd, Nat.reduceLeDiff, Nat.reduceEqDiff, ↓reduceIte, ti25, tyX, Tok.cells, List.length_map, rC]
     have hp := rdP_eq he
     simp only [rdF, ← hp, he]
     exact Le.refl _
end Go.Proofs.YtkokfdmggdhfmaaDoor
namespace Go.Proofs.YtkokfdmggdhfmaaDoor
open Go Go.RowKit
set_option linter.unusedSimpArgs false
set_option linter.unnecessarySimpa false
set_option linter.unusedVariables false
structure Rdx where
  t : Tm
  a : Int
  b : Int
  i : Nat
  e : Int
def wr (i : Nat) (e : Int) : Rdx := ⟨zTm, 0, 0, i, e⟩
def bTrue : ByteArray := ⟨#[116, 114, 117, 101]⟩
def bFalse : ByteArray := ⟨#[102, 97, 108, 115, 101]⟩
def bFun : ByteArray := ⟨#[102, 117, 110]⟩
def bLet : ByteArray := ⟨#[108, 101, 116]⟩
def bRec : ByteArray := ⟨#[114, 101, 99]⟩
def bIn : ByteArray := ⟨#[105, 110]⟩
def bIf : ByteArray := ⟨#[105, 102]⟩
def bThen : ByteArray := ⟨#[116, 104, 101, 110]⟩
def bElse : ByteArray := ⟨#[101, 108, 115, 101]⟩
def bArr : ByteArray := ⟨#[45, 62]⟩
def bEq : ByteArray := ⟨#[61]⟩
def bCom : ByteArray := ⟨#[44]⟩
def bCol : ByteArray := ⟨#[58]⟩
def bClo : ByteArray := ⟨#[41]⟩
def nmV (s : ByteArray) : Int := s.data.toList.foldl (fun n c => 10 * n + ((c.toNat : Int) - 48)) 0
def tm (k : Int) (s : ByteArray) (n : Int) (ps : List Tm) (p : Int × Int) : Tm := .mk k s n (.mk 0 0 []) ps p.1 p.2
def sp (l : List Tok) (i : Nat) : Int × Int := ((tk l i).a, (tk l i).b)
section
variable (E : Nat → Int → Rdx) (l : List Tok) (m : Int)
def tpR (i0 : Nat) (n : Int) : Nat → List Tm → Nat → Rdx
  | 0, _, i => wr i 3
  | f + 1, ps, i =>
    if isT l i 4 bCom = true then
      if 8 ≤ ps.length then wr i 6
      else if (E (i + 1) (n + 1)).e = 0 then tpR i0 n f (ps ++ [(E (i + 1) (n + 1)).t]) (E (i + 1) (n + 1)).i else E (i + 1) (n + 1)
    else if isT l i 4 bClo = true then
      match ps with
      | [t] => ⟨t, (spJ (sp l i0) (sp l i)).1, (spJ (sp l i0) (sp l i)).2, i + 1, 0⟩
      | ps => ⟨tm 9 ByteArray.empty 0 ps (spJ (sp l i0) (sp l i)), (spJ (sp l i0) (sp l i)).1, (spJ (sp l i0) (sp l i)).2, i + 1, 0⟩
    else wr i 3
def anR (i0 : Nat) (n : Int) (t : Tm) (j : Nat) : Rdx :=
  if (rdF l m (j + 1) (n + 2)).2.2 = 0 then
    if isT l (rdF l m (j + 1) (n + 2)).2.1 4 bClo = true then
      ⟨.mk 10 ByteArray.empty 0 (rdF l m (j + 1) (n + 2)).1 [t] (spJ (sp l i0) (sp l (rdF l m (j + 1) (n + 2)).2.1.toNat)).1 (spJ (sp l i0) (sp l (rdF l m (j + 1) (n + 2)).2.1.toNat)).2,
        (spJ (sp l i0) (sp l (rdF l m (j + 1) (n + 2)).2.1.toNat)).1, (spJ (sp l i0) (sp l (rdF l m (j + 1) (n + 2)).2.1.toNat)).2, (rdF l m (j + 1) (n + 2)).2.1.toNat + 1, 0⟩
    else wr (rdF l m (j + 1) (n + 2)).2.1.toNat 3
  else wr (rdF l m (j + 1) (n + 2)).2.1.toNat (rdF l m (j + 1) (n + 2)).2.2
def brR (i : Nat) (n : Int) : Rdx :=
  if (E (i + 1) (n + 1)).e = 0 then
    if isT l (E (i + 1) (n + 1)).i 4 bCol = true then anR l m i n (E (i + 1) (n + 1)).t (E (i + 1) (n + 1)).i
    else tpR E l i n (l.length + 1) [(E (i + 1) (n + 1)).t] (E (i + 1) (n + 1)).i
  else E (i + 1) (n + 1)
def atR (i : Nat) (n : Int) : Rdx :=
  if beg l i = true then
    if (tk l i).k = 1 then ⟨tm 1 (tk l i).s 0 [] (sp l i), (tk l i).a, (tk l i).b, i + 1, 0⟩
    else if (tk l i).k = 2 then ⟨tm 2 ByteArray.empty (nmV (tk l i).s) [] (sp l i), (tk l i).a, (tk l i).b, i + 1, 0⟩
    else if (tk l i).s = bTrue then ⟨tm 3 ByteArray.empty 1 [] (sp l i), (tk l i).a, (tk l i).b, i + 1, 0⟩
    else if (tk l i).s = bOpen then brR E l m i n
    else ⟨tm 3 ByteArray.empty 0 [] (sp l i), (tk l i).a, (tk l i).b, i + 1, 0⟩
  else wr i 3
def apR (n : Int) : Nat → Rdx → Rdx
  | 0, r => r
  | f + 1, r =>
    if r.e = 0 ∧ beg l r.i = true then
      if (atR E l m r.i n).e = 0 then
        apR n f ⟨tm 5 ByteArray.empty 0 [r.t, (atR E l m r.i n).t] (spJ (r.a, r.b) ((atR E l m r.i n).a, (atR E l m r.i n).b)), (spJ (r.a, r.b) ((atR E l m r.i n).a, (atR E l m r.i n).b)).1, (spJ (r.a, r.b) ((atR E l m r.i n).a, (atR E l m r.i n).b)).2, (atR E l m r.i n).i, 0⟩
      else atR E l m r.i n
    else r
def wtR (i : Nat) (k : Int) (s : ByteArray) (K : Rdx) : Rdx := if isT l i k s = true then K else wr i 3
def foEnd (k : Int) (s : ByteArray) (i0 : Nat) (ps : List Tm) (r : Rdx) : Rdx := ⟨tm k s 0 ps (spJ (sp l i0) (r.a, r.b)), (spJ (sp l i0) (r.a, r.b)).1, (spJ (sp l i0) (r.a, r.b)).2, r.i, 0⟩
def funR (i : Nat) (n : Int) : Rdx :=
  if kdT l (i + 1) 1 = true then
    wtR l (i + 2) 4 bArr (if (E (i + 3) (n + 1)).e = 0 then foEnd l 4 (tk l (i + 1)).s i [(E (i + 3) (n + 1)).t] (E (i + 3) (n + 1)) else E (i + 3) (n + 1))
  else wr (i + 1) 3
def letR (k : Int) (i0 j : Nat) (n : Int) : Rdx :=
  if kdT l j 1 = true then
    wtR l (j + 1) 4 bEq (if (E (j + 2) (n + 1)).e = 0 then
      wtR l (E (j + 2) (n + 1)).i 3 bIn (if (E ((E (j + 2) (n + 1)).i + 1) (n + 1)).e = 0 then
        foEnd l k (tk l j).s i0 [(E (j + 2) (n + 1)).t, (E ((E (j + 2) (n + 1)).i + 1) (n + 1)).t] (E ((E (j + 2) (n + 1)).i + 1) (n + 1))
        else E ((E (j + 2) (n + 1)).i + 1) (n + 1))
      else E (j + 2) (n + 1))
  else wr j 3
def ifR (i : Nat) (n : Int) : Rdx :=
  if (E (i + 1) (n + 1)).e = 0 then
    wtR l (E (i + 1) (n + 1)).i 3 bThen (if (E ((E (i + 1) (n + 1)).i + 1) (n + 1)).e = 0 then
      wtR l (E ((E (i + 1) (n + 1)).i + 1) (n + 1)).i 3 bElse (if (E ((E ((E (i + 1) (n + 1)).i + 1) (n + 1)).i + 1) (n + 1)).e = 0 then
        foEnd l 8 ByteArray.empty i [(E (i + 1) (n + 1)).t, (E ((E (i + 1) (n + 1)).i + 1) (n + 1)).t, (E ((E ((E (i + 1) (n + 1)).i + 1) (n + 1)).i + 1) (n + 1)).t] (E ((E ((E (i + 1) (n + 1)).i + 1) (n + 1)).i + 1) (n + 1))
        else E ((E ((E (i + 1) (n + 1)).i + 1) (n + 1)).i + 1) (n + 1))
      else E ((E (i + 1) (n + 1)).i + 1) (n + 1))
  else E (i + 1) (n + 1)
def exR (i : Nat) (n : Int) : Rdx :=
  if m < n then wr i 4
  else if isT l i 3 bFun = true then funR E l i n
  else if isT l i 3 bLet = true then (if isT l (i + 1 : Nat) 3 bRec = true then letR E l 7 i (i + 2) n else letR E l 6 i (i + 1) n)
  else if isT l i 3 bIf = true then ifR E l i n
  else if (atR E l m i n).e = 0 then apR E l m n (l.length + 1) (atR E l m i n) else atR E l m i n
end
def rx (l : List Tok) (m : Int) : Nat → Nat → Int → Rdx
  | 0 => fun i _ => wr i 3
  | f + 1 => exR (rx l m f) l m
def rxW (l : List Tok) (m : Int) : Tm × Nat × Int :=
  if (rx l m (l.length + 1) 0 1).e = 0 then
    if kdT l (rx l m (l.length + 1) 0 1).i 0 = true then ((rx l m (l.length + 1) 0 1).t, (rx l m (l.length + 1) 0 1).i + 1, 0) else (zTm, (rx l m (l.length + 1) 0 1).i, 3)
  else (zTm, (rx l m (l.length + 1) 0 1).i, (rx l m (l.length + 1) 0 1).e)
end Go.Proofs.YtkokfdmggdhfmaaDoor
namespace Go.Proofs.YtkokfdmggdhfmaaDoor
open Go Go.RowKit
set_option maxRecDepth 100000
set_option maxHeartbeats 4000000
set_option linter.unusedSimpArgs false
set_option linter.unnecessarySimpa false
set_option linter.unusedVariables false
attribute [local irreducible] aops dRun
theorem name_q (l : List Tok) (m : Int) (i : Nat) (e : Int) (hl : l.length ≤ 1048576) : QCalls 94 [.ptr 0 0] l m i e (.v (.string (if e = 0 ∧ kdT l i 1 = true then (tk l i).s else ByteArray.empty))) (if e = 0 ∧ kdT l i 1 = true then i + 1 else i) (if e = 0 ∧ kdT l i 1 = false then 3 else e) := by
  by_cases he : e = 0
  · cases h : kdT l i 1 with
    | true =>
      have h9 := name_yes l m i e hl he h
      simp only [he, and_self, if_true, Bool.true_eq_false, and_false, if_false] at h9 ⊢
      exact h9
    | false =>
      have h9 := name_no l m i e hl he h
      simp only [he, and_self, if_true, Bool.false_eq_true, and_false, if_false] at h9 ⊢
      exact h9
  · have h9 := name_bad l m i e he
    simp only [he, false_and, if_false]
    exact h9
abbrev Pt := Tm × Int × Int
def partC (p : Pt) : List AV := [.v (.int .i64 p.1.k), .v (.string p.1.s), .v (.int .i64 p.1.n), .v (.int .i64 p.1.t.k), .v (.int .i64 p.1.t.n), .sl 3 (p.1.t.ps.map Ty.cells), .sl 9 (p.1.ps.map Tm.cells), .v (.int .i64 p.1.a), .v (.int .i64 p.1.b), .v (.int .i64 p.2.1), .v (.int .i64 p.2.2)]
theorem partC_data (p : Pt) : DataL (partC p) := .cons (.v _) (.cons (.v _) (.cons (.v _) (.cons (.v _) (.cons (.v _) (.cons (Ty.dataSl _) (.cons (Tm.dataSl _) (.cons (.v _) (.cons (.v _) (.cons (.v _) (.cons (.v _) .nil))))))))))
def QEx (f : Nat) (args : List AV) (l : List Tok) (m : Int) (i : Nat) (e : Int) (r : Rdx) : Prop :=
  ACalls Tryd.prog f args (enumO 0 [.cells 78 (qC l i m e)]) 1 fun v os n => (∃ p : Pt, (r.e = 0 → p = (r.t, r.a, r.b)) ∧ v = .agg (partC p) ∧ os = enumO 0 [.cells 78 (qC l r.i m r.e)]) ∧ n = 1
theorem q_ren {k nx : Nat} (l : List Tok) (m : Int) (i : Nat) (e : Int) : RenOs (renOf [k] nx) 0 [.cells 78 (qC l i m e)] [.cells 78 (qC l i m e)] := ⟨.cells ⟨.data (Tok.dataSl l), .v _, .v _, .v _, trivial⟩, trivial⟩
theorem QEx.at {f : Nat} {args args' : List AV} {l : List Tok} {m e : Int} {i : Nat} {r : Rdx} (h : QEx f args l m i e r) {k : Nat} {os' : Os} {nx' : Nat} (hargs : RenL (renOf [k] nx') args args')
    (hk : getO os' k = some (.cells 78 (qC l i m e))) (lk : k < nx') {Q' : AV → Os → Nat → Prop} (hq : ∀ p : Pt, (r.e = 0 → p = (r.t, r.a, r.b)) → Q' (.agg (partC p)) (putO os' k (.cells 78 (qC l r.i m r.e))) nx') : ACalls Tryd.prog f args' os' nx' Q' :=
  ACalls.atE (obs := [.cells 78 (qC l i m e)]) (obs' := [.cells 78 (qC l i m e)]) (C := fun p : Pt => r.e = 0 → p = (r.t, r.a, r.b)) (R := fun p => .agg (partC p)) (R' := fun p => .agg (partC p)) (obs1 := fun _ => [.cells 78 (qC l r.i m r.e)]) (obs1' := fun _ => [.cells 78 (qC l r.i m r.e)]) [k] h rfl (fun _ => rfl) (by simp) (by simpa using lk) hargs (fun p => .data (.agg (partC_data p))) (q_ren _ _ _ _) ⟨hk, trivial⟩ (fun _ => q_ren _ _ _ _) (fun p hp => hq p hp)
def exS (E : Nat → Int → Rdx) (i : Nat) (n e : Int) : Rdx := if e = 0 then E i n else wr i e
def PxOk (l : List Tok) (m : Int) (f : Nat) : Prop := ∀ (i : Nat) (n e : Int), (e = 0 → l.length - i < f) → i ≤ l.length → -1000000 ≤ n → n + (l.length - i : Nat) ≤ 700000 → QEx 64 [.ptr 0 0, .v (.int .i64 n)] l m i e (exS (rx l m f) i n e)
def QFo (f : Nat) (args : List AV) (l : List Tok) (m : Int) (i : Nat) (i0 : Nat) (r : Rdx) : Prop :=
  ACalls Tryd.prog f args (enumO 0 [.cells 78 (qC l i m 0)]) 1 fun v os n => (∃ p : Tm × Pt, (r.e = 0 → ∃ k s ps j, p.1 = tm k s 0 ps (0, 0) ∧ r = foEnd l k s i0 ps ⟨p.2.1, p.2.2.1, p.2.2.2, j, 0⟩) ∧ v = .tup [.agg p.1.cells, .agg (partC p.2)] ∧ os = enumO 0 [.cells 78 (qC l r.i m r.e)]) ∧ n = 1
theorem QFo.at {f : Nat} {args args' : List AV} {l : List Tok} {m : Int} {i i0 : Nat} {r : Rdx} (h : QFo f args l m i i0 r) {k : Nat} {os' : Os} {nx' : Nat} (hargs : RenL (renOf [k] nx') args args')
    (hk : getO os' k = some (.cells 78 (qC l i m 0))) (lk : k < nx') {Q' : AV → Os → Nat → Prop} (hq : ∀ p : Tm × Pt, (r.e = 0 → ∃ k s ps j, p.1 = tm k s 0 ps (0, 0) ∧ r = foEnd l k s i0 ps ⟨p.2.1, p.2.2.1, p.2.2.2, j, 0⟩) → Q' (.tup [.agg p.1.cells, .agg (partC p.2)]) (putO os' k (.cells 78 (qC l r.i m r.e))) nx') : ACalls Tryd.prog f args' os' nx' Q' :=
  ACalls.atE (obs := [.cells 78 (qC l i m 0)]) (obs' := [.cells 78 (qC l i m 0)]) (C := fun p : Tm × Pt => r.e = 0 → ∃ k s ps j, p.1 = tm k s 0 ps (0, 0) ∧ r = foEnd l k s i0 ps ⟨p.2.1, p.2.2.1, p.2.2.2, j, 0⟩) (R := fun p => .tup [.agg p.1.cells, .agg (partC p.2)]) (R' := fun p => .tup [.agg p.1.cells, .agg (partC p.2)]) (obs1 := fun _ => [.cells 78 (qC l r.i m r.e)]) (obs1' := fun _ => [.cells 78 (qC l r.i m r.e)]) [k] h rfl (fun _ => rfl) (by simp) (by simpa using lk) hargs (fun p => .data (.tup (.cons (Tm.dataAgg _) (.cons (.agg (partC_data p.2)) .nil)))) (q_ren _ _ _ _) ⟨hk, trivial⟩ (fun _ => q_ren _ _ _ _) (fun p hp => hq p hp)
theorem none_pure (x : Int × Int) : APure Tryd.prog 108 [.agg [.v (.int .i64 x.1), .v (.int .i64 x.2)]] (.v (.bool (decide (x.1 ≥ x.2)))) := by
  refine APure.mkL (.cons (.agg (.cons (.v _) (.cons (.v _) .nil))) .nil) (.v _) ?_
  refine ACalls_intro Tryd.func108 (by kernel_rfl) rfl (by rw [Tryd.ntmps108]; simp) (fun hm => ?_)
  simp only [Tryd.ntmps108, Tryd.results108, List.length_cons, List.length_nil, Nat.reduceAdd, Nat.reduceSub, List.replicate_succ, List.replicate_zero, List.cons_append, List.nil_append]
  refine AWp_seqK fun Y0 y0 => ?_
  refine AWp_region ?_
  refine aops_chunk 1 fun Q0 q0 => ?_
  simp only [↓bO, go_sem, seval]
  refine q0 _ ?_
  clear q0 Q0
  simp only [go_sem]
  simp only [↓bO, go_sem, seval]
  refine y0 _ ?_
  try clear y0 Y0
  refine AWp_seqK fun Y0 y0 => ?_
  refine AWp_region ?_
  iterate 5 (refine aops_chunk 1 fun Q0 q0 => ?_; simp only [↓bO, go_sem, seval]; refine q0 _ ?_; clear q0 Q0; simp only [go_sem])
  simp only [↓bO, go_sem, seval]
  refine y0 _ ?_
  try clear y0 Y0
  refine AWp_ret ?_
  try simp only [thenQ, blockQ, noGotoQ, retQ, aRes, tupOf, bS, bA]
  exact Le.refl _
theorem SpJoin_pure (x y : Int × Int) : APure Tryd.prog 93 [.agg [.v (.int .i64 x.1), .v (.int .i64 x.2)], .agg [.v (.int .i64 y.1), .v (.int .i64 y.2)]] (.agg [.v (.int .i64 (spJ x y).1), .v (.int .i64 (spJ x y).2)]) := by
  refine APure.mkL (.cons (.agg (.cons (.v _) (.cons (.v _) .nil))) (.cons (.agg (.cons (.v _) (.cons (.v _) .nil))) .nil)) ((.agg (.cons (.v _) (.cons (.v _) .nil)))) ?_
  refine ACalls_intro Tryd.func93 (by kernel_rfl) rfl (by rw [Tryd.ntmps93]; simp) (fun hm => ?_)
  simp only [Tryd.ntmps93, Tryd.results93, List.length_cons, List.length_nil, Nat.reduceAdd, Nat.reduceSub, List.replicate_succ, List.replicate_zero, List.cons_append, List.nil_append]
  refine AWp_seqK fun Y0 y0 => ?_
  refine AWp_region ?_
  iterate 2 (refine aops_chunk 1 fun Q0 q0 => ?_; simp only [↓bO, go_sem, seval]; refine q0 _ ?_; clear q0 Q0; simp only [go_sem])
  simp only [↓bO, go_sem, seval]
  refine y0 _ ?_
  try clear y0 Y0
  refine AWp_seqK fun Y0 y0 => ?_
  refine AWp_block ?_
  refine AWp_seqK fun Y1 y1 => ?_
  refine AWp_region ?_
  refine aops_chunk 1 fun Q0 q0 => ?_
  simp only [↓bO, go_sem, seval]
  refine q0 _ ?_
  clear q0 Q0
  simp only [go_sem]
  refine aops_chunk 1 fun Q0 q0 => ?_
  simp only [↓bO, go_sem, seval]
  refine APure.call (none_pure _) ?_
  try simp only [bS, bA, thenQ, blockQ, noGotoQ]
  refine q0 _ ?_
  clear q0 Q0
  simp only [go_sem]
  refine aops_chunk 1 fun Q0 q0 => ?_
  simp only [↓bO, go_sem, seval]
  refine q0 _ ?_
  clear q0 Q0
  simp only [go_sem]
  refine aops_case 8 rfl (fun hc8 => ?_) (fun hc8 => ?_)
  ·
   simp only [List.set_cons_zero, List.set_cons_succ]
   have ha : x.1 ≥ x.2 := by (have h9 := hc8; simp at h9; omega)
   refine aops_chunk 1 fun Q0 q0 => ?_
   simp only [↓bO, go_sem, seval]
   refine q0 _ ?_
   clear q0 Q0
   simp only [go_sem]
   refine aops_chunk 1 fun Q0 q0 => ?_
   simp only [↓bO, go_sem, seval]
   refine APure.call (none_pure _) ?_
   try simp only [bS, bA, thenQ, blockQ, noGotoQ]
   refine q0 _ ?_
   clear q0 Q0
   simp only [go_sem]
   refine aops_chunk 1 fun Q0 q0 => ?_
   simp only [↓bO, go_sem, seval]
   refine q0 _ ?_
   clear q0 Q0
   simp only [go_sem]
   simp only [↓bO, go_sem, seval]
   refine y1 _ ?_
   try clear y1 Y1
   refine AWp_cond rfl (fun hb5 => ?_) (fun hb5 => ?_)
   ·
    have hb : x.1 ≥ x.2 ∧ y.1 ≥ y.2 := by (have h9 := hb5; simp at h9; omega)
    refine AWp_seqK fun Y1 y1 => ?_
    refine AWp_region ?_
    refine aops_chunk 1 fun Q0 q0 => ?_
    simp only [↓bO, go_sem, seval]
    refine q0 _ ?_
    clear q0 Q0
    simp only [go_sem]
    simp only [↓bO, go_sem, seval]
    refine y1 _ ?_
    try clear y1 Y1
    refine AWp_ret ?_
    try simp only [thenQ, blockQ, noGotoQ, retQ, aRes, tupOf, bS, bA, aLoad, getO, pack, bL, Nat.reduceAdd, Nat.reduceLeDiff, Nat.reduceEqDiff, ↓reduceIte, ti38, tyX]
    rw [show spJ x y = (0, 0) from if_pos ⟨by omega, by omega⟩]
    exact Le.refl _
   ·
    have hb : ¬ (x.1 ≥ x.2 ∧ y.1 ≥ y.2) := by (have h9 := hb5; simp at h9; omega)
    refine AWp_seqK fun Y1 y1 => ?_
    refine AWp_region ?_
    refine aops_chunk 1 fun Q0 q0 => ?_
    simp only [↓bO, go_sem, seval]
    refine q0 _ ?_
    clear q0 Q0
    simp only [go_sem]
    refine aops_chunk 1 fun Q0 q0 => ?_
    simp only [↓bO, go_sem, seval]
    refine APure.call (none_pure _) ?_
    try simp only [bS, bA, thenQ, blockQ, noGotoQ]
    refine q0 _ ?_
    clear q0 Q0
    simp only [go_sem]
    simp only [↓bO, go_sem, seval]
    refine y1 _ ?_
    try clear y1 Y1
    refine AWp_cond rfl (fun hb13 => ?_) (fun hb13 => ?_)
    ·
     have hc : x.1 ≥ x.2 := by (have h9 := hb13; simp at h9; omega)
     refine AWp_seqK fun Y1 y1 => ?_
     refine AWp_region ?_
     refine aops_chunk 1 fun Q0 q0 => ?_
     simp only [↓bO, go_sem, seval]
     refine q0 _ ?_
     clear q0 Q0
     simp only [go_sem]
     simp only [↓bO, go_sem, seval]
     refine y1 _ ?_
     try clear y1 Y1
     refine AWp_ret ?_
     try simp only [thenQ, blockQ, noGotoQ, retQ, aRes, tupOf, bS, bA, aLoad, getO, pack, bL, Nat.reduceAdd, Nat.reduceLeDiff, Nat.reduceEqDiff, ↓reduceIte, ti38, tyX]
     rw [show spJ x y = y from by unfold spJ; rw [if_neg (by omega), if_pos (by omega)]]
     exact Le.refl _
    ·
     have hc : ¬ x.1 ≥ x.2 := by (have h9 := hb13; simp at h9; omega)
     refine AWp_seqK fun Y1 y1 => ?_
     refine AWp_region ?_
     refine aops_chunk 1 fun Q0 q0 => ?_
     simp only [↓bO, go_sem, seval]
     refine q0 _ ?_
     clear q0 Q0
     simp only [go_sem]
     refine aops_chunk 1 fun Q0 q0 => ?_
     simp only [↓bO, go_sem, seval]
     refine APure.call (none_pure _) ?_
     try simp only [bS, bA, thenQ, blockQ, noGotoQ]
     refine q0 _ ?_
     clear q0 Q0
     simp only [go_sem]
     simp only [↓bO, go_sem, seval]
     refine y1 _ ?_
     try clear y1 Y1
     refine AWp_cond rfl (fun hb17 => ?_) (fun hb17 => ?_)
     ·
      have hd : y.1 ≥ y.2 := by (have h9 := hb17; simp at h9; omega)
      refine AWp_seqK fun Y1 y1 => ?_
      refine AWp_region ?_
      refine aops_chunk 1 fun Q0 q0 => ?_
      simp only [↓bO, go_sem, seval]
      refine q0 _ ?_
      clear q0 Q0
      simp only [go_sem]
      simp only [↓bO, go_sem, seval]
      refine y1 _ ?_
      try clear y1 Y1
      refine AWp_ret ?_
      try simp only [thenQ, blockQ, noGotoQ, retQ, aRes, tupOf, bS, bA, aLoad, getO, pack, bL, Nat.reduceAdd, Nat.reduceLeDiff, Nat.reduceEqDiff, ↓reduceIte, ti38, tyX]
      rw [show spJ x y = x from by unfold spJ; rw [if_neg (by omega), if_neg (by omega), if_pos (by omega)]]
      exact Le.refl _
     ·
      have hd : ¬ y.1 ≥ y.2 := by (have h9 := hb17; simp at h9; omega)
      refine AWp_skip ?_
      try simp only [thenQ, blockQ, noGotoQ]
      refine y0 _ ?_
      try clear y0 Y0
      refine AWp_seqK fun Y0 y0 => ?_
      refine AWp_region ?_
      iterate 11 (refine aops_chunk 1 fun Q0 q0 => ?_; simp only [↓bO, go_sem, seval]; refine q0 _ ?_; clear q0 Q0; simp only [go_sem])
      simp only [↓bO, go_sem, seval]
      refine y0 _ ?_
      try clear y0 Y0
      refine AWp_ret ?_
      try simp only [thenQ, blockQ, noGotoQ, retQ, aRes, tupOf, bS, bA, aLoad, getO, pack, bL, Nat.reduceAdd, Nat.reduceLeDiff, Nat.reduceEqDiff, ↓reduceIte, ti38, tyX]
      rw [show spJ x y = (min x.1 y.1, max x.2 y.2) from by unfold spJ; rw [if_neg (by omega), if_neg (by omega), if_neg (by omega)]]
      exact Le.refl _
  ·
   simp only [List.set_cons_zero, List.set_cons_succ]
   have ha : ¬ x.1 ≥ x.2 := by (have h9 := hc8; simp at h9; omega)
   iterate 3 (refine aops_chunk 1 fun Q0 q0 => ?_; simp only [↓bO, go_sem, seval]; refine q0 _ ?_; clear q0 Q0; simp only [go_sem])
   simp only [↓bO, go_sem, seval]
   refine y1 _ ?_
   try clear y1 Y1
   refine AWp_cond (b := false) (by first | exact rfl | exact congrArg (fun b => AV.v (.bool b)) hb5) (fun h => (by cases h)) (fun _ => ?_)
   refine AWp_seqK fun Y1 y1 => ?_
   refine AWp_region ?_
   refine aops_chunk 1 fun Q0 q0 => ?_
   simp only [↓bO, go_sem, seval]
   refine q0 _ ?_
   clear q0 Q0
   simp only [go_sem]
   refine aops_chunk 1 fun Q0 q0 => ?_
   simp only [↓bO, go_sem, seval]
   refine APure.call (none_pure _) ?_
   try simp only [bS, bA, thenQ, blockQ, noGotoQ]
   refine q0 _ ?_
   clear q0 Q0
   simp only [go_sem]
   simp only [↓bO, go_sem, seval]
   refine y1 _ ?_
   try clear y1 Y1
   refine AWp_cond rfl (fun hb13 => ?_) (fun hb13 => ?_)
   ·
    have hc : x.1 ≥ x.2 := by (have h9 := hb13; simp at h9; omega)
    refine AWp_seqK fun Y1 y1 => ?_
    refine AWp_region ?_
    refine aops_chunk 1 fun Q0 q0 => ?_
    simp only [↓bO, go_sem, seval]
    refine q0 _ ?_
    clear q0 Q0
    simp only [go_sem]
    simp only [↓bO, go_sem, seval]
    refine y1 _ ?_
    try clear y1 Y1
    refine AWp_ret ?_
    try simp only [thenQ, blockQ, noGotoQ, retQ, aRes, tupOf, bS, bA, aLoad, getO, pack, bL, Nat.reduceAdd, Nat.reduceLeDiff, Nat.reduceEqDiff, ↓reduceIte, ti38, tyX]
    rw [show spJ x y = y from by unfold spJ; rw [if_neg (by omega), if_pos (by omega)]]
    exact Le.refl _
   ·
    have hc : ¬ x.1 ≥ x.2 := by (have h9 := hb13; simp at h9; omega)
    refine AWp_seqK fun Y1 y1 => ?_
    refine AWp_region ?_
    refine aops_chunk 1 fun Q0 q0 => ?_
    simp only [↓bO, go_sem, seval]
    refine q0 _ ?_
    clear q0 Q0
    simp only [go_sem]
    refine aops_chunk 1 fun Q0 q0 => ?_
    simp only [↓bO, go_sem, seval]
    refine APure.call (none_pure _) ?_
    try simp only [bS, bA, thenQ, blockQ, noGotoQ]
    refine q0 _ ?_
    clear q0 Q0
    simp only [go_sem]
    simp only [↓bO, go_sem, seval]
    refine y1 _ ?_
    try clear y1 Y1
    refine AWp_cond rfl (fun hb17 => ?_) (fun hb17 => ?_)
    ·
     have hd : y.1 ≥ y.2 := by (have h9 := hb17; simp at h9; omega)
     refine AWp_seqK fun Y1 y1 => ?_
     refine AWp_region ?_
     refine aops_chunk 1 fun Q0 q0 => ?_
     simp only [↓bO, go_sem, seval]
     refine q0 _ ?_
     clear q0 Q0
     simp only [go_sem]
     simp only [↓bO, go_sem, seval]
     refine y1 _ ?_
     try clear y1 Y1
     refine AWp_ret ?_
     try simp only [thenQ, blockQ, noGotoQ, retQ, aRes, tupOf, bS, bA, aLoad, getO, pack, bL, Nat.reduceAdd, Nat.reduceLeDiff, Nat.reduceEqDiff, ↓reduceIte, ti38, tyX]
     rw [show spJ x y = x from by unfold spJ; rw [if_neg (by omega), if_neg (by omega), if_pos (by omega)]]
     exact Le.refl _
    ·
     have hd : ¬ y.1 ≥ y.2 := by (have h9 := hb17; simp at h9; omega)
     refine AWp_skip ?_
     try simp only [thenQ, blockQ, noGotoQ]
     refine y0 _ ?_
     try clear y0 Y0
     refine AWp_seqK fun Y0 y0 => ?_
     refine AWp_region ?_
     iterate 11 (refine aops_chunk 1 fun Q0 q0 => ?_; simp only [↓bO, go_sem, seval]; refine q0 _ ?_; clear q0 Q0; simp only [go_sem])
     simp only [↓bO, go_sem, seval]
     refine y0 _ ?_
     try clear y0 Y0
     refine AWp_ret ?_
     try simp only [thenQ, blockQ, noGotoQ, retQ, aRes, tupOf, bS, bA, aLoad, getO, pack, bL, Nat.reduceAdd, Nat.reduceLeDiff, Nat.reduceEqDiff, ↓reduceIte, ti38, tyX]
     rw [show spJ x y = (min x.1 y.1, max x.2 y.2) from by unfold spJ; rw [if_neg (by omega), if_neg (by omega), if_neg (by omega)]]
     exact Le.refl _
theorem beg_out {l : List Tok} {i : Nat} (h : ¬ i < l.length) : beg l i = false := by
  have h2 : ∀ k s, isT l (i : Int) k s = false := fun k s => isT_out (by omega)
  unfold beg
  rw [kdT_out h, kdT_out h, h2, h2, h2]
  rfl
theorem kdT_is {l : List Tok} {i : Nat} {t : Tok} (h : l[i]? = some t) (k : Int) : kdT l i k = decide (t.k = k) := by
  have hlt : i < l.length := (List.getElem?_eq_some_iff.1 h).1
  unfold kdT
  rw [tk_at h, decide_eq_true hlt, Bool.true_and]
theorem ahead_q (l : List Tok) (m : Int) (i : Nat) (e : Int) (hl : l.length ≤ 1048576) : QCalls 96 [.ptr 0 0] l m (i) (e) (.v (.bool (beg l i))) (i) (e) := by
  refine ACalls.clean (C := fun r os' => r = _ ∧ os' = _) ?_
  refine ACalls_intro Tryd.func96 (by kernel_rfl) rfl (by rw [Tryd.ntmps96]; simp) (fun hm => ?_)
  simp only [Tryd.ntmps96, Tryd.results96, List.length_cons, List.length_nil, Nat.reduceAdd, Nat.reduceSub, List.replicate_succ, List.replicate_zero, List.cons_append, List.nil_append]
  refine AWp_seqK fun Y0 y0 => ?_
  refine AWp_region ?_
  simp only [↓bO, go_sem, seval, Tok.cells, qC]
  refine y0 _ ?_
  try clear y0 Y0
  refine AWp_seqK fun Y0 y0 => ?_
  refine AWp_seqK fun Y1 y1 => ?_
  refine AWp_drawK 12 mixed (by kernel_rfl) fun J0 j0 => ?_
  iterate 11 (simp only [go_sem]; refine dRun_chunk 1 fun Q0 q0 => ?_; simp only [↓dRun, ↓dOp, ↓bO, go_sem, seval, Tok.cells, qC]; refine q0 _ ?_; clear q0 Q0)
  simp only [go_sem]
  simp only [↓dRun, ↓dOp, ↓bO, go_sem, seval, Tok.cells, qC]
  refine j0 _ ?_
  clear j0 J0
  simp only [bL, aops, thenQ, blockQ, noGotoQ]
  refine y1 _ ?_
  try clear y1 Y1
  refine AWp_cond rfl (fun hb15 => ?_) (fun hb15 => ?_)
  ·
   have hge : ¬ i < l.length := by (have h9 := hb15; simp at h9; omega)
   refine AWp_seqK fun Y1 y1 => ?_
   refine AWp_region ?_
   simp only [↓bO, go_sem, seval, Tok.cells, qC]
   refine y1 _ ?_
   try clear y1 Y1
   refine AWp_ret ?_
   try simp only [thenQ, blockQ, noGotoQ, retQ, aRes, tupOf, bS, bA]
   rw [show beg l i = false from beg_out (by omega)]
   refine ⟨_, _, ⟨rfl, rfl⟩, .v _ _, qUnd (by omega) _ _ _ _, ?_, ?_, by omega⟩
   · exact Le.refl _
   · first | exact ⟨0, rfl, rfl⟩ | exact ⟨1, rfl, rfl⟩ | exact ⟨2, rfl, rfl⟩ | exact ⟨3, rfl, rfl⟩
  ·
   have hlt : i < l.length := by (have h9 := hb15; simp at h9; omega)
   obtain ⟨t, ht⟩ : ∃ t, l[i]? = some t := ⟨_, List.getElem?_eq_getElem hlt⟩
   have htk := tk_at ht
   refine AWp_skip ?_
   try simp only [thenQ, blockQ, noGotoQ]
   refine y0 _ ?_
   try clear y0 Y0
   refine AWp_seqK fun Y0 y0 => ?_
   refine AWp_drawK 13 mixed (by kernel_rfl) fun J0 j0 => ?_
   iterate 12 (simp only [go_sem]; refine dRun_chunk 1 fun Q0 q0 => ?_; simp only [↓dRun, ↓dOp, ↓bO, go_sem, seval, Tok.cells, qC, hlt, gM ht]; refine q0 _ ?_; clear q0 Q0)
   simp only [go_sem]
   simp only [↓dRun, ↓dOp, ↓bO, go_sem, seval, Tok.cells, qC, hlt, gM ht]
   refine j0 _ ?_
   clear j0 J0
   simp only [go_sem]
   simp only [↓bO, go_sem, seval, Tok.cells, qC, hlt, gM ht]
   refine y0 _ ?_
   try clear y0 Y0
   refine AWp_seqK fun Y0 y0 => ?_
   refine AWp_region ?_
   iterate 3 (refine aops_chunk 1 fun Q0 q0 => ?_; simp only [↓bO, go_sem, seval, Tok.cells, qC, hlt, gM ht]; refine q0 _ ?_; clear q0 Q0; simp only [go_sem])
   refine aops_case 31 rfl (fun hc31 => ?_) (fun hc31 => ?_)
   ·
    simp only [List.set_cons_zero, List.set_cons_succ]
    iterate 21 (refine aops_chunk 1 fun Q0 q0 => ?_; simp only [↓bO, go_sem, seval, Tok.cells, qC, hlt, gM ht]; refine q0 _ ?_; clear q0 Q0; simp only [go_sem])
    simp only [↓bO, go_sem, seval, Tok.cells, qC, hlt, gM ht]
    refine y0 _ ?_
    try clear y0 Y0
    refine AWp_ret ?_
    try simp only [thenQ, blockQ, noGotoQ, retQ, aRes, tupOf, bS, bA]
    have hb : beg l i = true := by (unfold beg; rw [kdT_is ht, kdT_is ht]; have g := hc31; (try simp at g); simp [g])
    rw [hb]
    refine ⟨_, _, ⟨rfl, rfl⟩, .v _ _, qUnd (by omega) _ _ _ _, ?_, ?_, by omega⟩
    · exact Le.refl _
    · first | exact ⟨0, rfl, rfl⟩ | exact ⟨1, rfl, rfl⟩ | exact ⟨2, rfl, rfl⟩ | exact ⟨3, rfl, rfl⟩
   ·
    simp only [List.set_cons_zero, List.set_cons_succ]
    iterate 4 (refine aops_chunk 1 fun Q0 q0 => ?_; simp only [↓bO, go_sem, seval, Tok.cells, qC, hlt, gM ht]; refine q0 _ ?_; clear q0 Q0; simp only [go_sem])
    refine aops_case 35 rfl (fun hc35 => ?_) (fun hc35 => ?_)
    ·
     simp only [List.set_cons_zero, List.set_cons_succ]
     iterate 17 (refine aops_chunk 1 fun Q0 q0 => ?_; simp only [↓bO, go_sem, seval, Tok.cells, qC, hlt, gM ht]; refine q0 _ ?_; clear q0 Q0; simp only [go_sem])
     simp only [↓bO, go_sem, seval, Tok.cells, qC, hlt, gM ht]
     refine y0 _ ?_
     try clear y0 Y0
     refine AWp_ret ?_
     try simp only [thenQ, blockQ, noGotoQ, retQ, aRes, tupOf, bS, bA]
     have hb : beg l i = true := by (unfold beg; rw [kdT_is ht, kdT_is ht]; have g := hc35; (try simp at g); simp [g])
     rw [hb]
     refine ⟨_, _, ⟨rfl, rfl⟩, .v _ _, qUnd (by omega) _ _ _ _, ?_, ?_, by omega⟩
     · exact Le.refl _
     · first | exact ⟨0, rfl, rfl⟩ | exact ⟨1, rfl, rfl⟩ | exact ⟨2, rfl, rfl⟩ | exact ⟨3, rfl, rfl⟩
    ·
     simp only [List.set_cons_zero, List.set_cons_succ]
     iterate 3 (refine aops_chunk 1 fun Q0 q0 => ?_; simp only [↓bO, go_sem, seval, Tok.cells, qC, hlt, gM ht]; refine q0 _ ?_; clear q0 Q0; simp only [go_sem])
     refine aops_chunk 1 fun Q0 q0 => ?_
     simp only [↓bO, go_sem, seval, Tok.cells, qC, hlt, gM ht]
     refine QCalls.at (k := 0) (is_q l m i e 3 ⟨#[116, 114, 117, 101]⟩ hl) ?_ (.v _) rfl (by first | omega | (simp only; omega)) ?_
     · exact ⟨.ptr rfl, .v _, .v _, trivial⟩
     simp only [putO, Nat.reduceEqDiff, ↓reduceIte]
     try simp only [bS, bA, thenQ, blockQ, noGotoQ]
     iterate 2 (refine q0 _ ?_; clear q0 Q0; simp only [go_sem]; refine aops_chunk 1 fun Q0 q0 => ?_; simp only [↓bO, go_sem, seval, Tok.cells, qC, hlt, gM ht])
     refine q0 _ ?_
     clear q0 Q0
     simp only [go_sem]
     refine aops_case 41 rfl (fun hc41 => ?_) (fun hc41 => ?_)
     ·
      simp only [List.set_cons_zero, List.set_cons_succ]
      iterate 11 (refine aops_chunk 1 fun Q0 q0 => ?_; simp only [↓bO, go_sem, seval, Tok.cells, qC, hlt, gM ht]; refine q0 _ ?_; clear q0 Q0; simp only [go_sem])
      simp only [↓bO, go_sem, seval, Tok.cells, qC, hlt, gM ht]
      refine y0 _ ?_
      try clear y0 Y0
      refine AWp_ret ?_
      try simp only [thenQ, blockQ, noGotoQ, retQ, aRes, tupOf, bS, bA]
      have hb : beg l i = true := by (unfold beg; rw [kdT_is ht, kdT_is ht]; have g := hc41; (try simp at g); simp [g])
      rw [hb]
      refine ⟨_, _, ⟨rfl, rfl⟩, .v _ _, qUnd (by omega) _ _ _ _, ?_, ?_, by omega⟩
      · exact Le.refl _
      · first | exact ⟨0, rfl, rfl⟩ | exact ⟨1, rfl, rfl⟩ | exact ⟨2, rfl, rfl⟩ | exact ⟨3, rfl, rfl⟩
     ·
      simp only [List.set_cons_zero, List.set_cons_succ]
      iterate 3 (refine aops_chunk 1 fun Q0 q0 => ?_; simp only [↓bO, go_sem, seval, Tok.cells, qC, hlt, gM ht]; refine q0 _ ?_; clear q0 Q0; simp only [go_sem])
      refine aops_chunk 1 fun Q0 q0 => ?_
      simp only [↓bO, go_sem, seval, Tok.cells, qC, hlt, gM ht]
      refine QCalls.at (k := 0) (is_q l m i e 3 ⟨#[102, 97, 108, 115, 101]⟩ hl) ?_ (.v _) rfl (by first | omega | (simp only; omega)) ?_
      · exact ⟨.ptr rfl, .v _, .v _, trivial⟩
      simp only [putO, Nat.reduceEqDiff, ↓reduceIte]
      try simp only [bS, bA, thenQ, blockQ, noGotoQ]
      iterate 2 (refine q0 _ ?_; clear q0 Q0; simp only [go_sem]; refine aops_chunk 1 fun Q0 q0 => ?_; simp only [↓bO, go_sem, seval, Tok.cells, qC, hlt, gM ht])
      refine q0 _ ?_
      clear q0 Q0
      simp only [go_sem]
      refine aops_case 47 rfl (fun hc47 => ?_) (fun hc47 => ?_)
      ·
       simp only [List.set_cons_zero, List.set_cons_succ]
       iterate 5 (refine aops_chunk 1 fun Q0 q0 => ?_; simp only [↓bO, go_sem, seval, Tok.cells, qC, hlt, gM ht]; refine q0 _ ?_; clear q0 Q0; simp only [go_sem])
       simp only [↓bO, go_sem, seval, Tok.cells, qC, hlt, gM ht]
       refine y0 _ ?_
       try clear y0 Y0
       refine AWp_ret ?_
       try simp only [thenQ, blockQ, noGotoQ, retQ, aRes, tupOf, bS, bA]
       have hb : beg l i = true := by (unfold beg; rw [kdT_is ht, kdT_is ht]; have g := hc47; (try simp at g); simp [g])
       rw [hb]
       refine ⟨_, _, ⟨rfl, rfl⟩, .v _ _, qUnd (by omega) _ _ _ _, ?_, ?_, by omega⟩
       · exact Le.refl _
       · first | exact ⟨0, rfl, rfl⟩ | exact ⟨1, rfl, rfl⟩ | exact ⟨2, rfl, rfl⟩ | exact ⟨3, rfl, rfl⟩
      ·
       simp only [List.set_cons_zero, List.set_cons_succ]
       iterate 3 (refine aops_chunk 1 fun Q0 q0 => ?_; simp only [↓bO, go_sem, seval, Tok.cells, qC, hlt, gM ht]; refine q0 _ ?_; clear q0 Q0; simp only [go_sem])
       refine aops_chunk 1 fun Q0 q0 => ?_
       simp only [↓bO, go_sem, seval, Tok.cells, qC, hlt, gM ht]
       refine QCalls.at (k := 0) (is_q l m i e 4 ⟨#[40]⟩ hl) ?_ (.v _) rfl (by first | omega | (simp only; omega)) ?_
       · exact ⟨.ptr rfl, .v _, .v _, trivial⟩
       simp only [putO, Nat.reduceEqDiff, ↓reduceIte]
       try simp only [bS, bA, thenQ, blockQ, noGotoQ]
       refine q0 _ ?_
       clear q0 Q0
       simp only [go_sem]
       refine aops_chunk 1 fun Q0 q0 => ?_
       simp only [↓bO, go_sem, seval, Tok.cells, qC, hlt, gM ht]
       refine q0 _ ?_
       clear q0 Q0
       simp only [go_sem]
       simp only [↓bO, go_sem, seval, Tok.cells, qC, hlt, gM ht]
       refine y0 _ ?_
       try clear y0 Y0
       refine AWp_ret ?_
       try simp only [thenQ, blockQ, noGotoQ, retQ, aRes, tupOf, bS, bA]
       have hb : beg l i = isT l (i : Int) 4 bOpen := by (unfold beg; rw [kdT_is ht, kdT_is ht]; have g1 := hc31; have g2 := hc35; have g3 := hc41; have g4 := hc47; simp at g1 g2 g3 g4; simp [g1, g2, g3, g4])
       rw [hb]
       refine ⟨_, _, ⟨rfl, rfl⟩, .v _ _, qUnd (by omega) _ _ _ _, ?_, ?_, by omega⟩
       · exact Le.refl _
       · first | exact ⟨0, rfl, rfl⟩ | exact ⟨1, rfl, rfl⟩ | exact ⟨2, rfl, rfl⟩ | exact ⟨3, rfl, rfl⟩
theorem name_g (l : List Tok) (m : Int) (i : Nat) (hl : l.length ≤ 1048576) : ∃ (j : Nat) (d : Int) (s : ByteArray), QCalls 94 [.ptr 0 0] l m i 0 (.v (.string s)) j d ∧ (kdT l i 1 = true ∧ j = i + 1 ∧ d = 0 ∧ s = (tk l i).s ∨ kdT l i 1 = false ∧ j = i ∧ d = 3) := by
  have h9 := name_q l m i 0 hl
  cases h : kdT l i 1 with
  | true =>
    simp only [h, and_self, if_true, Bool.true_eq_false, and_false, if_false] at h9
    exact ⟨_, _, _, h9, .inl ⟨rfl, rfl, rfl, rfl⟩⟩
  | false =>
    simp only [h, and_self, if_true, Bool.false_eq_true, and_false, if_false] at h9
    exact ⟨_, _, _, h9, .inr ⟨rfl, rfl, rfl⟩⟩
theorem want_g (l : List Tok) (m : Int) (i : Nat) (e k : Int) (s : ByteArray) (hl : l.length ≤ 1048576) : ∃ (j : Nat) (d : Int), QCalls 95 [.ptr 0 0, .v (.int .i64 k), .v (.string s)] l m i e (.tup []) j d ∧ (e = 0 ∧ isT l (i : Int) k s = true ∧ j = i + 1 ∧ d = 0 ∨ e = 0 ∧ isT l (i : Int) k s = false ∧ j = i ∧ d = 3 ∨ ¬ e = 0 ∧ j = i ∧ d = e) := by
  have h9 := want_q l m i e k s hl
  by_cases he : e = 0
  · subst he
    cases h : isT l (i : Int) k s with
    | true =>
      simp only [h, and_self, if_true, Bool.true_eq_false, and_false, if_false] at h9
      exact ⟨_, _, h9, .inl ⟨rfl, rfl, rfl, rfl⟩⟩
    | false =>
      simp only [h, and_self, if_true, Bool.false_eq_true, and_false, if_false] at h9
      exact ⟨_, _, h9, .inr (.inl ⟨rfl, rfl, rfl, rfl⟩)⟩
  · simp only [he, false_and, if_false] at h9
    exact ⟨_, _, h9, .inr (.inr ⟨he, rfl, rfl⟩)⟩
def Rdx.ok (l : List Tok) (i : Nat) (r : Rdx) : Prop := i ≤ r.i ∧ r.i ≤ l.length ∧ (r.e = 0 → i < r.i)
def ROk (l : List Tok) (m : Int) (f : Nat) : Prop := ∀ (i : Nat) (n : Int), i ≤ l.length → (rx l m f i n).ok l i
theorem ex_g {l : List Tok} {m : Int} {f : Nat} (hP : PxOk l m f) (hR : ROk l m f) (i : Nat) (n e : Int) (h1 : e = 0 → l.length - i < f) (h2 : i ≤ l.length) (h3 : -1000000 ≤ n) (h4 : n + (l.length - i : Nat) ≤ 700000) : ∃ X : Rdx, QEx 64 [.ptr 0 0, .v (.int .i64 n)] l m i e X ∧ i ≤ X.i ∧ X.i ≤ l.length ∧ (e = 0 ∧ X = rx l m f i n ∧ (X.e = 0 → i < X.i) ∨ ¬ e = 0 ∧ X = wr i e) := by
  have h9 := hP i n e h1 h2 h3 h4
  by_cases he : e = 0
  · rw [show exS (rx l m f) i n e = rx l m f i n from if_pos he] at h9
    have h8 := hR i n h2
    exact ⟨_, h9, h8.1, h8.2.1, .inl ⟨he, rfl, h8.2.2⟩⟩
  · rw [show exS (rx l m f) i n e = wr i e from if_neg he] at h9
    exact ⟨_, h9, Nat.le_refl i, h2, .inr ⟨he, rfl⟩⟩
theorem funR_eq {E : Nat → Int → Rdx} {l : List Tok} {i j1 j2 : Nat} {n d1 d2 : Int} {s : ByteArray} {X : Rdx} (hn : kdT l (i + 1) 1 = true ∧ j1 = i + 1 + 1 ∧ d1 = 0 ∧ s = (tk l (i + 1)).s ∨ kdT l (i + 1) 1 = false ∧ j1 = i + 1 ∧ d1 = 3)
    (hw : d1 = 0 ∧ isT l (j1 : Int) 4 bArr = true ∧ j2 = j1 + 1 ∧ d2 = 0 ∨ d1 = 0 ∧ isT l (j1 : Int) 4 bArr = false ∧ j2 = j1 ∧ d2 = 3 ∨ ¬ d1 = 0 ∧ j2 = j1 ∧ d2 = d1)
    (hx : d2 = 0 ∧ X = E j2 (n + 1) ∨ ¬ d2 = 0 ∧ X = wr j2 d2) : (funR E l i n).i = X.i ∧ (funR E l i n).e = X.e ∧ ((funR E l i n).e = 0 → funR E l i n = foEnd l 4 s i [X.t] X) := by
  unfold funR wtR
  rcases hn with ⟨a1, a2, a3, a4⟩ | ⟨a1, a2, a3⟩
  · subst a2 a3 a4
    rw [if_pos a1]
    rcases hw with ⟨b1, b2, b3, b4⟩ | ⟨b1, b2, b3, b4⟩ | ⟨b1, b2⟩
    · subst b3 b4
      rw [if_pos (show isT l ((i + 2 : Nat) : Int) 4 bArr = true from b2)]
      rcases hx with ⟨c1, c2⟩ | ⟨c1, c2⟩
      · subst c2
        by_cases g : (E (i + 3) (n + 1)).e = 0
        · rw [if_pos g]
          exact ⟨rfl, g.symm, fun _ => rfl⟩
        · rw [if_neg g]
          exact ⟨rfl, rfl, fun h => absurd h g⟩
      · exact absurd rfl c1
    · subst b3 b4
      rw [if_neg (show ¬ isT l ((i + 2 : Nat) : Int) 4 bArr = true from fun h => by rw [show isT l ((i + 2 : Nat) : Int) 4 bArr = false from b2] at h; exact absurd h (by simp))]
      rcases hx with ⟨c1, c2⟩ | ⟨c1, c2⟩
      · exact absurd c1 (by decide)
      · subst c2
        exact ⟨rfl, rfl, fun h => absurd (show (3 : Int) = 0 from h) (by decide)⟩
    · exact absurd rfl b1
  · subst a2 a3
    rw [if_neg (by rw [a1]; simp)]
    rcases hw with ⟨b1, _⟩ | ⟨b1, _⟩ | ⟨b1, b2, b3⟩
    · exact absurd b1 (by decide)
    · exact absurd b1 (by decide)
    · subst b2 b3
      rcases hx with ⟨c1, c2⟩ | ⟨c1, c2⟩
      · exact absurd c1 b1
      · subst c2
        exact ⟨rfl, rfl, fun h => absurd (show (3 : Int) = 0 from h) (by decide)⟩
theorem foEnd_eta (l : List Tok) (k : Int) (s : ByteArray) (i0 : Nat) (ps : List Tm) (X : Rdx) : foEnd l k s i0 ps X = foEnd l k s i0 ps ⟨X.t, X.a, X.b, X.i, 0⟩ := rfl
theorem partT (p : Pt) : p.1.cells = [.v (.int .i64 p.1.k), .v (.string p.1.s), .v (.int .i64 p.1.n), .v (.int .i64 p.1.t.k), .v (.int .i64 p.1.t.n), .sl 3 (p.1.t.ps.map Ty.cells), .sl 9 (p.1.ps.map Tm.cells), .v (.int .i64 p.1.a), .v (.int .i64 p.1.b)] := p.1.cells_eq
theorem Tm.tmCells (k : Int) (s : ByteArray) (n : Int) (ps : List Tm) (a b : Int) : (tm k s n ps (a, b)).cells = [.v (.int .i64 k), .v (.string s), .v (.int .i64 n), .v (.int .i64 0), .v (.int .i64 0), .sl 3 [], .sl 9 (ps.map Tm.cells), .v (.int .i64 a), .v (.int .i64 b)] := Tm.cells_mk _ _ _ _ _ _ _
theorem fun_q (l : List Tok) (m : Int) (f i : Nat) (n : Int) (hl : l.length ≤ 1048576) (hP : PxOk l m f) (hR : ROk l m f) (hi : i < l.length) (hf : l.length - i ≤ f) (h3 : -1000000 ≤ n) (h4 : n + (l.length - i : Nat) ≤ 700000) : QFo 79 [.ptr 0 0, .v (.int .i64 (n + 1))] l m (i + 1) (i) (funR (rx l m f) l i n) := by
  obtain ⟨j1, d1, s, hN, hn⟩ := name_g l m (i + 1) hl
  obtain ⟨j2, d2, hW, hw⟩ := want_g l m j1 d1 4 bArr hl
  have g1 : i + 1 ≤ j1 ∧ j1 ≤ l.length := by
    rcases hn with ⟨a, b, _⟩ | ⟨a, b, _⟩
    · have := kdT_lt a
      omega
    · omega
  have g2 : j1 ≤ j2 ∧ j2 ≤ l.length := by
    rcases hw with ⟨_, a, b, _⟩ | ⟨_, a, b, _⟩ | ⟨_, b, _⟩
    · have := isT_ltN a
      omega
    · omega
    · omega
  obtain ⟨X, hX, x1, x2, hx⟩ := ex_g hP hR j2 (n + 1) d2 (fun _ => by omega) g2.2 (by omega) (by omega)
  obtain ⟨r1, r2, r3⟩ := funR_eq (E := rx l m f) (n := n) hn hw (hx.imp (fun h => ⟨h.1, h.2.1⟩) id)
  refine ACalls.clean (C := fun v os => ∃ p : Tm × Pt, ((funR (rx l m f) l i n).e = 0 → ∃ k s ps j, p.1 = tm k s 0 ps (0, 0) ∧ funR (rx l m f) l i n = foEnd l k s i ps ⟨p.2.1, p.2.2.1, p.2.2.2, j, 0⟩) ∧ v = .tup [.agg p.1.cells, .agg (partC p.2)] ∧ os = enumO 0 [.cells 78 (qC l (funR (rx l m f) l i n).i m (funR (rx l m f) l i n).e)]) ?_
  refine ACalls_intro Tryd.func79 (by kernel_rfl) rfl (by rw [Tryd.ntmps79]; simp) (fun hm => ?_)
  simp only [Tryd.ntmps79, Tryd.results79, List.length_cons, List.length_nil, Nat.reduceAdd, Nat.reduceSub, List.replicate_succ, List.replicate_zero, List.cons_append, List.nil_append]
  refine AWp_seqK fun Y0 y0 => ?_
  refine AWp_region ?_
  refine aops_chunk 1 fun Q0 q0 => ?_
  simp only [↓bO, go_sem, seval, Tok.cells, qC, partC, List.take, List.drop]
  refine q0 _ ?_
  clear q0 Q0
  simp only [go_sem]
  simp only [↓bO, go_sem, seval, Tok.cells, qC, partC, List.take, List.drop]
  refine y0 _ ?_
  try clear y0 Y0
  refine AWp_seqK fun Y0 y0 => ?_
  refine AWp_region ?_
  refine aops_chunk 1 fun Q0 q0 => ?_
  simp only [↓bO, go_sem, seval, Tok.cells, qC, partC, List.take, List.drop]
  refine q0 _ ?_
  clear q0 Q0
  simp only [go_sem]
  refine aops_chunk 1 fun Q0 q0 => ?_
  simp only [↓bO, go_sem, seval, Tok.cells, qC, partC, List.take, List.drop]
  refine QCalls.at (k := 0) hN ?_ (.v _) rfl (by first | omega | (simp only; omega)) ?_
  · exact ⟨.ptr rfl, trivial⟩
  simp only [putO, Nat.reduceEqDiff, ↓reduceIte]
  try simp only [bS, bA, thenQ, blockQ, noGotoQ]
  iterate 2 (refine q0 _ ?_; clear q0 Q0; simp only [go_sem]; refine aops_chunk 1 fun Q0 q0 => ?_; simp only [↓bO, go_sem, seval, Tok.cells, qC, partC, List.take, List.drop])
  refine q0 _ ?_
  clear q0 Q0
  simp only [go_sem]
  simp only [↓bO, go_sem, seval, Tok.cells, qC, partC, List.take, List.drop]
  refine y0 _ ?_
  try clear y0 Y0
  refine AWp_seqK fun Y0 y0 => ?_
  refine AWp_region ?_
  refine aops_chunk 1 fun Q0 q0 => ?_
  simp only [↓bO, go_sem, seval, Tok.cells, qC, partC, List.take, List.drop]
  refine q0 _ ?_
  clear q0 Q0
  simp only [go_sem]
  simp only [↓bO, go_sem, seval, Tok.cells, qC, partC, List.take, List.drop]
  refine QCalls.at (k := 0) hW ?_ (.tup .nil) rfl (by first | omega | (simp only; omega)) ?_
  · exact ⟨.ptr rfl, .v _, .v _, trivial⟩
  simp only [putO, Nat.reduceEqDiff, ↓reduceIte]
  try simp only [bS, bA, thenQ, blockQ, noGotoQ]
  refine y0 _ ?_
  try clear y0 Y0
  refine AWp_seqK fun Y0 y0 => ?_
  refine AWp_region ?_
  iterate 2 (refine aops_chunk 1 fun Q0 q0 => ?_; simp only [↓bO, go_sem, seval, Tok.cells, qC, partC, List.take, List.drop]; refine q0 _ ?_; clear q0 Q0; simp only [go_sem])
  refine aops_chunk 1 fun Q0 q0 => ?_
  simp only [↓bO, go_sem, seval, Tok.cells, qC, partC, List.take, List.drop]
  refine QEx.at (k := 0) hX ?_ rfl (by first | omega | (simp only; omega)) ?_
  · exact ⟨.ptr rfl, .v _, trivial⟩
  intro p hp
  simp only [partC, putO, Nat.reduceEqDiff, ↓reduceIte]
  try simp only [bS, bA, thenQ, blockQ, noGotoQ]
  refine q0 _ ?_
  clear q0 Q0
  simp only [go_sem]
  refine aops_chunk 1 fun Q0 q0 => ?_
  simp only [↓bO, go_sem, seval, Tok.cells, qC, partC, List.take, List.drop]
  refine q0 _ ?_
  clear q0 Q0
  simp only [go_sem]
  simp only [↓bO, go_sem, seval, Tok.cells, qC, partC, List.take, List.drop]
  refine y0 _ ?_
  try clear y0 Y0
  refine AWp_seqK fun Y0 y0 => ?_
  refine AWp_region ?_
  iterate 2 (refine aops_chunk 1 fun Q0 q0 => ?_; simp only [↓bO, go_sem, seval, Tok.cells, qC, partC, List.take, List.drop]; refine q0 _ ?_; clear q0 Q0; simp only [go_sem])
  refine aops_chunk 1 fun Q0 q0 => ?_
  simp only [↓bO, go_sem, seval, ↓bs1_1, ↓bs1_2, ↓bs1_3, ↓bs1_4, ↓bs1_5, ↓bs1_6, ↓bs1_7, ↓bs1_8, ↓bs1_9, ↓bs1_10, ↓bs1_11, ↓bs1_12, Tok.cells, qC, partC, List.take, List.drop]
  refine q0 _ ?_
  clear q0 Q0
  simp only [go_sem]
  refine aops_chunk 1 fun Q0 q0 => ?_
  simp only [↓bO, go_sem, seval, Tok.cells, qC, partC, List.take, List.drop]
  refine q0 _ ?_
  clear q0 Q0
  simp only [go_sem]
  simp only [↓bO, go_sem, seval, Tok.cells, qC, partC, List.take, List.drop]
  refine y0 _ ?_
  try clear y0 Y0
  refine AWp_seqK fun Y0 y0 => ?_
  refine AAny_start [] 4 rfl mixed (trivial) rfl ?_
  dsimp only
  refine AAny_all2 (i := 0) (j := 1) (by kernel_rfl) ?_ ?_
  ·
   refine aAt_op rfl rfl fun Q0 q0 => ?_
   simp only [↓bO, go_sem, seval, Tok.cells, qC, partC, List.take, List.drop]
   refine q0 _ ⟨trivial, ?_⟩
   clear q0 Q0
   refine AAny_all2 (i := 1) (j := 2) (by kernel_rfl) ?_ ?_
   ·
    refine aAt_op rfl rfl fun Q0 q0 => ?_
    simp only [↓bO, go_sem, seval, Tok.cells, qC, partC, List.take, List.drop]
    refine q0 _ ⟨trivial, ?_⟩
    clear q0 Q0
    refine AAny_all1 (i := 2) (by kernel_rfl) ?_
    ·
     refine aAt_op rfl rfl fun Q0 q0 => ?_
     simp only [↓bO, go_sem, seval, Tok.cells, qC, partC, List.take, List.drop]
     refine q0 _ ⟨trivial, ?_⟩
     clear q0 Q0
     refine AAny_all1 (i := 3) (by kernel_rfl) ?_
     ·
      refine aAt_op rfl rfl fun Q0 q0 => ?_
      simp only [↓bO, go_sem, seval, Tok.cells, qC, partC, List.take, List.drop]
      refine q0 _ ⟨trivial, ?_⟩
      clear q0 Q0
      refine AAny_done (by kernel_rfl) ?_
      simp only [thenQ, blockQ, noGotoQ]
      refine y0 _ ?_
      try clear y0 Y0
      refine AWp_ret ?_
      try simp only [thenQ, blockQ, noGotoQ, retQ, aRes, tupOf, bS, bA, aLoad, getO, pack, bL, Nat.reduceAdd, Nat.reduceLeDiff, Nat.reduceEqDiff, ↓reduceIte, ti40, ti102, tyX, Tok.cells, List.length_map, qC, partC, List.take, List.drop]
      refine ⟨_, _, ⟨(tm 4 s 0 [p.1] (0, 0), p), fun h => ⟨4, s, [p.1], X.i, rfl, ?_⟩, rfl, rfl⟩, ?_, qUnd (by omega) _ _ _ _, ?_, ?_, by omega⟩
      · rw [r3 h, foEnd_eta, hp (r2.symm.trans h)]
      · exact .data (.tup (.cons (Tm.dataAgg _) (.cons (.agg (partC_data p)) .nil)))
      ·
       show Le _ (.tup [.agg (tm 4 s 0 [p.1] (0, 0)).cells, .agg (partC p)])
       rw [Tm.tmCells]
       simp only [List.map_cons, List.map_nil, partT]
       exact Le.tup ⟨Le.agg ⟨.refl _, .refl _, .refl _, .refl _, .refl _, Le.slNil 3, .refl _, .refl _, .refl _, trivial⟩, .refl _, trivial⟩
      ·
       rw [r1, r2]
       first | exact ⟨2, rfl, rfl⟩ | exact ⟨3, rfl, rfl⟩ | exact ⟨4, rfl, rfl⟩ | exact ⟨5, rfl, rfl⟩ | exact ⟨6, rfl, rfl⟩ | exact ⟨7, rfl, rfl⟩
   ·
    refine aAt_op rfl rfl fun Q0 q0 => ?_
    simp only [↓bO, go_sem, seval, Tok.cells, qC, partC, List.take, List.drop]
    refine q0 _ ⟨trivial, ?_⟩
    clear q0 Q0
    refine AAny_all1 (i := 1) (by kernel_rfl) ?_
    ·
     refine aAt_op rfl rfl fun Q0 q0 => ?_
     simp only [↓bO, go_sem, seval, Tok.cells, qC, partC, List.take, List.drop]
     refine q0 _ ⟨trivial, ?_⟩
     clear q0 Q0
     refine AAny_all1 (i := 3) (by kernel_rfl) ?_
     ·
      refine aAt_op rfl rfl fun Q0 q0 => ?_
      simp only [↓bO, go_sem, seval, Tok.cells, qC, partC, List.take, List.drop]
      refine q0 _ ⟨trivial, ?_⟩
      clear q0 Q0
      refine AAny_done (by kernel_rfl) ?_
      simp only [thenQ, blockQ, noGotoQ]
      refine y0 _ ?_
      try clear y0 Y0
      refine AWp_ret ?_
      try simp only [thenQ, blockQ, noGotoQ, retQ, aRes, tupOf, bS, bA, aLoad, getO, pack, bL, Nat.reduceAdd, Nat.reduceLeDiff, Nat.reduceEqDiff, ↓reduceIte, ti40, ti102, tyX, Tok.cells, List.length_map, qC, partC, List.take, List.drop]
      refine ⟨_, _, ⟨(tm 4 s 0 [p.1] (0, 0), p), fun h => ⟨4, s, [p.1], X.i, rfl, ?_⟩, rfl, rfl⟩, ?_, qUnd (by omega) _ _ _ _, ?_, ?_, by omega⟩
      · rw [r3 h, foEnd_eta, hp (r2.symm.trans h)]
      · exact .data (.tup (.cons (Tm.dataAgg _) (.cons (.agg (partC_data p)) .nil)))
      ·
       show Le _ (.tup [.agg (tm 4 s 0 [p.1] (0, 0)).cells, .agg (partC p)])
       rw [Tm.tmCells]
       simp only [List.map_cons, List.map_nil, partT]
       exact Le.tup ⟨Le.agg ⟨.refl _, .refl _, .refl _, .refl _, .refl _, Le.slNil 3, .refl _, .refl _, .refl _, trivial⟩, .refl _, trivial⟩
      ·
       rw [r1, r2]
       first | exact ⟨2, rfl, rfl⟩ | exact ⟨3, rfl, rfl⟩ | exact ⟨4, rfl, rfl⟩ | exact ⟨5, rfl, rfl⟩ | exact ⟨6, rfl, rfl⟩ | exact ⟨7, rfl, rfl⟩
  ·
   refine aAt_op rfl rfl fun Q0 q0 => ?_
   simp only [↓bO, go_sem, seval, Tok.cells, qC, partC, List.take, List.drop]
   refine q0 _ ⟨trivial, ?_⟩
   clear q0 Q0
   refine AAny_all1 (i := 0) (by kernel_rfl) ?_
   ·
    refine aAt_op rfl rfl fun Q0 q0 => ?_
    simp only [↓bO, go_sem, seval, Tok.cells, qC, partC, List.take, List.drop]
    refine q0 _ ⟨trivial, ?_⟩
    clear q0 Q0
    refine AAny_all1 (i := 2) (by kernel_rfl) ?_
    ·
     refine aAt_op rfl rfl fun Q0 q0 => ?_
     simp only [↓bO, go_sem, seval, Tok.cells, qC, partC, List.take, List.drop]
     refine q0 _ ⟨trivial, ?_⟩
     clear q0 Q0
     refine AAny_all1 (i := 3) (by kernel_rfl) ?_
     ·
      refine aAt_op rfl rfl fun Q0 q0 => ?_
      simp only [↓bO, go_sem, seval, Tok.cells, qC, partC, List.take, List.drop]
      refine q0 _ ⟨trivial, ?_⟩
      clear q0 Q0
      refine AAny_done (by kernel_rfl) ?_
      simp only [thenQ, blockQ, noGotoQ]
      refine y0 _ ?_
      try clear y0 Y0
      refine AWp_ret ?_
      try simp only [thenQ, blockQ, noGotoQ, retQ, aRes, tupOf, bS, bA, aLoad, getO, pack, bL, Nat.reduceAdd, Nat.reduceLeDiff, Nat.reduceEqDiff, ↓reduceIte, ti40, ti102, tyX, Tok.cells, List.length_map, qC, partC, List.take, List.drop]
      refine ⟨_, _, ⟨(tm 4 s 0 [p.1] (0, 0), p), fun h => ⟨4, s, [p.1], X.i, rfl, ?_⟩, rfl, rfl⟩, ?_, qUnd (by omega) _ _ _ _, ?_, ?_, by omega⟩
      · rw [r3 h, foEnd_eta, hp (r2.symm.trans h)]
      · exact .data (.tup (.cons (Tm.dataAgg _) (.cons (.agg (partC_data p)) .nil)))
      ·
       show Le _ (.tup [.agg (tm 4 s 0 [p.1] (0, 0)).cells, .agg (partC p)])
       rw [Tm.tmCells]
       simp only [List.map_cons, List.map_nil, partT]
       exact Le.tup ⟨Le.agg ⟨.refl _, .refl _, .refl _, .refl _, .refl _, Le.slNil 3, .refl _, .refl _, .refl _, trivial⟩, .refl _, trivial⟩
      ·
       rw [r1, r2]
       first | exact ⟨2, rfl, rfl⟩ | exact ⟨3, rfl, rfl⟩ | exact ⟨4, rfl, rfl⟩ | exact ⟨5, rfl, rfl⟩ | exact ⟨6, rfl, rfl⟩ | exact ⟨7, rfl, rfl⟩
def WD (l : List Tok) (i : Nat) (e k : Int) (s : ByteArray) (j : Nat) (d : Int) : Prop := e = 0 ∧ isT l (i : Int) k s = true ∧ j = i + 1 ∧ d = 0 ∨ e = 0 ∧ isT l (i : Int) k s = false ∧ j = i ∧ d = 3 ∨ ¬ e = 0 ∧ j = i ∧ d = e
def XD (E : Nat → Int → Rdx) (j : Nat) (n d : Int) (X : Rdx) : Prop := d = 0 ∧ X = E j n ∨ ¬ d = 0 ∧ X = wr j d
theorem WD.bad {l : List Tok} {i j : Nat} {e k d : Int} {s : ByteArray} (h : WD l i e k s j d) (he : ¬ e = 0) : j = i ∧ d = e := by
  rcases h with ⟨a, _⟩ | ⟨a, _⟩ | ⟨_, a⟩
  · exact absurd a he
  · exact absurd a he
  · exact a
theorem XD.bad {E : Nat → Int → Rdx} {j : Nat} {n d : Int} {X : Rdx} (h : XD E j n d X) (he : ¬ d = 0) : X = wr j d := by
  rcases h with ⟨a, _⟩ | ⟨_, a⟩
  · exact absurd a he
  · exact a
theorem XD.ok {E : Nat → Int → Rdx} {j : Nat} {n : Int} {X : Rdx} (h : XD E j n 0 X) : X = E j n := by
  rcases h with ⟨_, a⟩ | ⟨a, _⟩
  · exact a
  · exact absurd rfl a
theorem bad_next {E : Nat → Int → Rdx} {l : List Tok} {j : Nat} {n k d : Int} {s : ByteArray} {Y Z : Rdx} (hY : ¬ Y.e = 0) (hw : WD l Y.i Y.e k s j d) (hz : XD E j n d Z) : Z.i = Y.i ∧ Z.e = Y.e := by
  obtain ⟨rfl, rfl⟩ := hw.bad hY
  rw [hz.bad hY]
  exact ⟨rfl, rfl⟩
theorem st_eq {E : Nat → Int → Rdx} {l : List Tok} {j : Nat} {n k d : Int} {s : ByteArray} {X Y : Rdx} (hw : WD l X.i X.e k s j d) (hy : XD E j n d Y) (K : Rdx) :
    (X.e = 0 ∧ Y = E (X.i + 1) n ∧ (if X.e = 0 then wtR l X.i k s K else X) = K) ∨ ¬ Y.e = 0 ∧ (if X.e = 0 then wtR l X.i k s K else X).i = Y.i ∧ (if X.e = 0 then wtR l X.i k s K else X).e = Y.e := by
  unfold wtR
  rcases hw with ⟨a1, a2, rfl, rfl⟩ | ⟨a1, a2, rfl, rfl⟩ | ⟨a1, a2, a3⟩
  · rw [if_pos a1, if_pos a2]
    exact .inl ⟨a1, hy.ok, rfl⟩
  · rw [if_pos a1, if_neg (by rw [a2]; simp), hy.bad (by decide)]
    exact .inr ⟨fun h => absurd (show (3 : Int) = 0 from h) (by decide), rfl, rfl⟩
  · subst a2 a3
    rw [if_neg a1, hy.bad a1]
    exact .inr ⟨a1, rfl, rfl⟩
theorem letR_eq {E : Nat → Int → Rdx} {l : List Tok} {k : Int} {i0 j j1 j2 j3 : Nat} {n d1 d2 d3 : Int} {s : ByteArray} {X Y : Rdx} (hn : kdT l j 1 = true ∧ j1 = j + 1 ∧ d1 = 0 ∧ s = (tk l j).s ∨ kdT l j 1 = false ∧ j1 = j ∧ d1 = 3)
    (hw : WD l j1 d1 4 bEq j2 d2) (hx : XD E j2 (n + 1) d2 X) (hw2 : WD l X.i X.e 3 bIn j3 d3) (hy : XD E j3 (n + 1) d3 Y) :
    (letR E l k i0 j n).i = Y.i ∧ (letR E l k i0 j n).e = Y.e ∧ ((letR E l k i0 j n).e = 0 → X.e = 0 ∧ letR E l k i0 j n = foEnd l k s i0 [X.t, Y.t] Y) := by
  have bad : ∀ r : Rdx, ¬ Y.e = 0 → r.i = Y.i → r.e = Y.e → r.i = Y.i ∧ r.e = Y.e ∧ (r.e = 0 → X.e = 0 ∧ r = foEnd l k s i0 [X.t, Y.t] Y) := fun r h1 h2 h3 => ⟨h2, h3, fun h => absurd (h3.symm.trans h) h1⟩
  have bad2 : ∀ r : Rdx, ¬ X.e = 0 → r.i = X.i → r.e = X.e → r.i = Y.i ∧ r.e = Y.e ∧ (r.e = 0 → X.e = 0 ∧ r = foEnd l k s i0 [X.t, Y.t] Y) := fun r h1 h2 h3 => by
    have h9 := bad_next h1 hw2 hy
    exact bad r (by rw [h9.2]; exact h1) (h2.trans h9.1.symm) (h3.trans h9.2.symm)
  have w3 : ∀ i, ¬ (wr i 3).e = 0 := fun i h => absurd (show (3 : Int) = 0 from h) (by decide)
  unfold letR
  rcases hn with ⟨a1, rfl, rfl, rfl⟩ | ⟨a1, rfl, rfl⟩
  · rw [if_pos a1]
    rcases hw with ⟨_, b2, rfl, rfl⟩ | ⟨_, b2, rfl, rfl⟩ | ⟨b1, _⟩
    · obtain rfl := hx.ok
      rw [show ∀ K, wtR l (j + 1) 4 bEq K = K from fun K => if_pos b2]
      show (Rdx.i (if (E (j + 1 + 1) (n + 1)).e = 0 then wtR l (E (j + 1 + 1) (n + 1)).i 3 bIn _ else E (j + 1 + 1) (n + 1))) = _ ∧ (Rdx.e (if (E (j + 1 + 1) (n + 1)).e = 0 then wtR l (E (j + 1 + 1) (n + 1)).i 3 bIn _ else E (j + 1 + 1) (n + 1))) = _ ∧ (Rdx.e (if (E (j + 1 + 1) (n + 1)).e = 0 then wtR l (E (j + 1 + 1) (n + 1)).i 3 bIn _ else E (j + 1 + 1) (n + 1)) = 0 → _ ∧ (if (E (j + 1 + 1) (n + 1)).e = 0 then wtR l (E (j + 1 + 1) (n + 1)).i 3 bIn _ else E (j + 1 + 1) (n + 1)) = _)
      rcases st_eq hw2 hy (if (E ((E (j + 1 + 1) (n + 1)).i + 1) (n + 1)).e = 0 then foEnd l k (tk l j).s i0 [(E (j + 1 + 1) (n + 1)).t, (E ((E (j + 1 + 1) (n + 1)).i + 1) (n + 1)).t] (E ((E (j + 1 + 1) (n + 1)).i + 1) (n + 1)) else E ((E (j + 1 + 1) (n + 1)).i + 1) (n + 1)) with ⟨c1, c2, c3⟩ | ⟨c1, c2, c3⟩
      · rw [c3, ← c2]
        by_cases g : Y.e = 0
        · rw [if_pos g]
          exact ⟨rfl, g.symm, fun _ => ⟨c1, rfl⟩⟩
        · rw [if_neg g]
          exact bad _ g rfl rfl
      · exact bad _ c1 c2 c3
    · rw [show ∀ K, wtR l (j + 1) 4 bEq K = wr (j + 1) 3 from fun K => if_neg (by rw [b2]; simp)]
      have h9 := hx.bad (by decide)
      exact bad2 _ (by rw [h9]; exact w3 _) (by rw [h9]) (by rw [h9])
    · exact absurd rfl b1
  · rw [if_neg (by rw [a1]; simp)]
    obtain ⟨rfl, rfl⟩ := hw.bad (by decide)
    have h9 := hx.bad (by decide)
    exact bad2 _ (by rw [h9]; exact w3 _) (by rw [h9]) (by rw [h9])
theorem ifR_eq {E : Nat → Int → Rdx} {l : List Tok} {i j1 j2 : Nat} {n d1 d2 : Int} {X Y Z : Rdx} (hx : X = E (i + 1) (n + 1)) (hw : WD l X.i X.e 3 bThen j1 d1) (hy : XD E j1 (n + 1) d1 Y) (hw2 : WD l Y.i Y.e 3 bElse j2 d2) (hz : XD E j2 (n + 1) d2 Z) :
    (ifR E l i n).i = Z.i ∧ (ifR E l i n).e = Z.e ∧ ((ifR E l i n).e = 0 → X.e = 0 ∧ Y.e = 0 ∧ ifR E l i n = foEnd l 8 ByteArray.empty i [X.t, Y.t, Z.t] Z) := by
  subst hx
  have bad : ∀ r : Rdx, ¬ Z.e = 0 → r.i = Z.i → r.e = Z.e → r.i = Z.i ∧ r.e = Z.e ∧ (r.e = 0 → (E (i + 1) (n + 1)).e = 0 ∧ Y.e = 0 ∧ r = foEnd l 8 ByteArray.empty i [(E (i + 1) (n + 1)).t, Y.t, Z.t] Z) := fun r h1 h2 h3 => ⟨h2, h3, fun h => absurd (h3.symm.trans h) h1⟩
  unfold ifR
  rcases st_eq hw hy _ with ⟨a1, a2, a3⟩ | ⟨a1, a2, a3⟩
  · rw [a3]
    subst a2
    rcases st_eq hw2 hz _ with ⟨c1, c2, c3⟩ | ⟨c1, c2, c3⟩
    · rw [c3, ← c2]
      by_cases g : Z.e = 0
      · rw [if_pos g]
        exact ⟨rfl, g.symm, fun _ => ⟨a1, c1, rfl⟩⟩
      · rw [if_neg g]
        exact bad _ g rfl rfl
    · exact bad _ c1 c2 c3
  · have h9 := bad_next a1 hw2 hz
    exact bad _ (by rw [h9.2]; exact a1) (a2.trans h9.1.symm) (a3.trans h9.2.symm)
theorem let_q (l : List Tok) (m : Int) (f i : Nat) (n : Int) (hl : l.length ≤ 1048576) (hP : PxOk l m f) (hR : ROk l m f) (hi : i < l.length) (hf : l.length - i ≤ f) (h3 : -1000000 ≤ n) (h4 : n + (l.length - i : Nat) ≤ 700000) : QFo 80 [.ptr 0 0, .v (.int .i64 (n + 1))] l m (i + 1) (i) (if isT l ((i + 1 : Nat) : Int) 3 bRec = true then letR (rx l m f) l 7 i (i + 2) n else letR (rx l m f) l 6 i (i + 1) n) := by
  generalize hr : (if isT l ((i + 1 : Nat) : Int) 3 bRec = true then letR (rx l m f) l 7 i (i + 2) n else letR (rx l m f) l 6 i (i + 1) n) = r
  refine ACalls.clean (C := fun v os => ∃ p : Tm × Pt, ((r).e = 0 → ∃ k s ps j, p.1 = tm k s 0 ps (0, 0) ∧ r = foEnd l k s i ps ⟨p.2.1, p.2.2.1, p.2.2.2, j, 0⟩) ∧ v = .tup [.agg p.1.cells, .agg (partC p.2)] ∧ os = enumO 0 [.cells 78 (qC l (r).i m (r).e)]) ?_
  refine ACalls_intro Tryd.func80 (by kernel_rfl) rfl (by rw [Tryd.ntmps80]; simp) (fun hm => ?_)
  simp only [Tryd.ntmps80, Tryd.results80, List.length_cons, List.length_nil, Nat.reduceAdd, Nat.reduceSub, List.replicate_succ, List.replicate_zero, List.cons_append, List.nil_append]
  refine AWp_seqK fun Y0 y0 => ?_
  refine AWp_region ?_
  refine aops_chunk 1 fun Q0 q0 => ?_
  simp only [↓bO, go_sem, seval, Tok.cells, qC, partC, List.take, List.drop]
  refine q0 _ ?_
  clear q0 Q0
  simp only [go_sem]
  simp only [↓bO, go_sem, seval, Tok.cells, qC, partC, List.take, List.drop]
  refine y0 _ ?_
  try clear y0 Y0
  refine AWp_seqK fun Y0 y0 => ?_
  refine AWp_region ?_
  iterate 2 (refine aops_chunk 1 fun Q0 q0 => ?_; simp only [↓bO, go_sem, seval, Tok.cells, qC, partC, List.take, List.drop]; refine q0 _ ?_; clear q0 Q0; simp only [go_sem])
  simp only [↓bO, go_sem, seval, Tok.cells, qC, partC, List.take, List.drop]
  refine y0 _ ?_
  try clear y0 Y0
  refine AWp_seqK fun Y0 y0 => ?_
  refine AWp_seqK fun Y1 y1 => ?_
  refine AWp_region ?_
  iterate 3 (refine aops_chunk 1 fun Q0 q0 => ?_; simp only [↓bO, go_sem, seval, Tok.cells, qC, partC, List.take, List.drop]; refine q0 _ ?_; clear q0 Q0; simp only [go_sem])
  simp only [↓bO, go_sem, seval, Tok.cells, qC, partC, List.take, List.drop]
  refine QCalls.at (k := 0) (take_q l m (i + 1) 0 3 bRec hl) ?_ (.v _) rfl (by first | omega | (simp only; omega)) ?_
  · exact ⟨.ptr rfl, .v _, .v _, trivial⟩
  simp only [putO, Nat.reduceEqDiff, ↓reduceIte]
  try simp only [bS, bA, thenQ, blockQ, noGotoQ]
  refine y1 _ ?_
  try clear y1 Y1
  refine AWp_cond rfl (fun hb13 => ?_) (fun hb13 => ?_)
  ·
   have h1 : isT l ((i + 1 : Nat) : Int) 3 bRec = true := hb13
   have h1l := isT_ltN h1
   simp only [h1, if_true]
   rw [if_pos h1] at hr
   subst hr
   obtain ⟨j1, d1, s, hN, hn⟩ := name_g l m (i + 2) hl
   obtain ⟨j2, d2, hW, hw⟩ := want_g l m j1 d1 4 bEq hl
   have g1 : i + 2 ≤ j1 ∧ j1 ≤ l.length := by
    rcases hn with ⟨a, b, _⟩ | ⟨a, b, _⟩
    ·
     have := kdT_lt a
     omega
    · omega
   have hwb : j1 ≤ j2 ∧ j2 ≤ l.length := by
    rcases hw with ⟨_, a, b, _⟩ | ⟨_, a, b, _⟩ | ⟨_, b, _⟩
    ·
     have := isT_ltN a
     omega
    · omega
    · omega
   obtain ⟨X, hX, x1, x2, hx⟩ := ex_g hP hR j2 (n + 1) d2 (fun _ => by omega) (by omega) (by omega) (by omega)
   obtain ⟨j3, d3, hW2, hw2⟩ := want_g l m X.i X.e 3 bIn hl
   have hw2b : X.i ≤ j3 ∧ j3 ≤ l.length := by
    rcases hw2 with ⟨_, a, b, _⟩ | ⟨_, a, b, _⟩ | ⟨_, b, _⟩
    ·
     have := isT_ltN a
     omega
    · omega
    · omega
   obtain ⟨Y, hY, y1, y2, hy⟩ := ex_g hP hR j3 (n + 1) d3 (fun _ => by omega) (by omega) (by omega) (by omega)
   obtain ⟨r1, r2, r3⟩ := letR_eq (E := rx l m f) (n := n) (k := 7) (i0 := i) hn hw (hx.imp (fun h => ⟨h.1, h.2.1⟩) id) hw2 (hy.imp (fun h => ⟨h.1, h.2.1⟩) id)
   refine AWp_region ?_
   refine aops_chunk 1 fun Q0 q0 => ?_
   simp only [↓bO, go_sem, seval, Tok.cells, qC, partC, List.take, List.drop]
   refine q0 _ ?_
   clear q0 Q0
   simp only [go_sem]
   simp only [↓bO, go_sem, seval, Tok.cells, qC, partC, List.take, List.drop]
   refine y0 _ ?_
   try clear y0 Y0
   refine AWp_seqK fun Y0 y0 => ?_
   refine AWp_region ?_
   refine aops_chunk 1 fun Q0 q0 => ?_
   simp only [↓bO, go_sem, seval, Tok.cells, qC, partC, List.take, List.drop]
   refine q0 _ ?_
   clear q0 Q0
   simp only [go_sem]
   refine aops_chunk 1 fun Q0 q0 => ?_
   simp only [↓bO, go_sem, seval, Tok.cells, qC, partC, List.take, List.drop]
   refine QCalls.at (k := 0) hN ?_ (.v _) rfl (by first | omega | (simp only; omega)) ?_
   · exact ⟨.ptr rfl, trivial⟩
   simp only [putO, Nat.reduceEqDiff, ↓reduceIte]
   try simp only [bS, bA, thenQ, blockQ, noGotoQ]
   refine q0 _ ?_
   clear q0 Q0
   simp only [go_sem]
   refine aops_chunk 1 fun Q0 q0 => ?_
   simp only [↓bO, go_sem, seval, Tok.cells, qC, partC, List.take, List.drop]
   refine q0 _ ?_
   clear q0 Q0
   simp only [go_sem]
   simp only [↓bO, go_sem, seval, Tok.cells, qC, partC, List.take, List.drop]
   refine y0 _ ?_
   try clear y0 Y0
   refine AWp_seqK fun Y0 y0 => ?_
   refine AWp_region ?_
   refine aops_chunk 1 fun Q0 q0 => ?_
   simp only [↓bO, go_sem, seval, Tok.cells, qC, partC, List.take, List.drop]
   refine q0 _ ?_
   clear q0 Q0
   simp only [go_sem]
   simp only [↓bO, go_sem, seval, Tok.cells, qC, partC, List.take, List.drop]
   refine QCalls.at (k := 0) hW ?_ (.tup .nil) rfl (by first | omega | (simp only; omega)) ?_
   · exact ⟨.ptr rfl, .v _, .v _, trivial⟩
   simp only [putO, Nat.reduceEqDiff, ↓reduceIte]
   try simp only [bS, bA, thenQ, blockQ, noGotoQ]
   refine y0 _ ?_
   try clear y0 Y0
   refine AWp_seqK fun Y0 y0 => ?_
   refine AWp_region ?_
   iterate 2 (refine aops_chunk 1 fun Q0 q0 => ?_; simp only [↓bO, go_sem, seval, Tok.cells, qC, partC, List.take, List.drop]; refine q0 _ ?_; clear q0 Q0; simp only [go_sem])
   refine aops_chunk 1 fun Q0 q0 => ?_
   simp only [↓bO, go_sem, seval, Tok.cells, qC, partC, List.take, List.drop]
   refine QEx.at (k := 0) hX ?_ rfl (by first | omega | (simp only; omega)) ?_
   · exact ⟨.ptr rfl, .v _, trivial⟩
   intro p hp
   simp only [partC, putO, Nat.reduceEqDiff, ↓reduceIte]
   try simp only [bS, bA, thenQ, blockQ, noGotoQ]
   refine q0 _ ?_
   clear q0 Q0
   simp only [go_sem]
   refine aops_chunk 1 fun Q0 q0 => ?_
   simp only [↓bO, go_sem, seval, Tok.cells, qC, partC, List.take, List.drop]
   refine q0 _ ?_
   clear q0 Q0
   simp only [go_sem]
   simp only [↓bO, go_sem, seval, Tok.cells, qC, partC, List.take, List.drop]
   refine y0 _ ?_
   try clear y0 Y0
   refine AWp_seqK fun Y0 y0 => ?_
   refine AWp_region ?_
   refine aops_chunk 1 fun Q0 q0 => ?_
   simp only [↓bO, go_sem, seval, Tok.cells, qC, partC, List.take, List.drop]
   refine q0 _ ?_
   clear q0 Q0
   simp only [go_sem]
   simp only [↓bO, go_sem, seval, Tok.cells, qC, partC, List.take, List.drop]
   refine QCalls.at (k := 0) hW2 ?_ (.tup .nil) rfl (by first | omega | (simp only; omega)) ?_
   · exact ⟨.ptr rfl, .v _, .v _, trivial⟩
   simp only [putO, Nat.reduceEqDiff, ↓reduceIte]
   try simp only [bS, bA, thenQ, blockQ, noGotoQ]
   refine y0 _ ?_
   try clear y0 Y0
   refine AWp_seqK fun Y0 y0 => ?_
   refine AWp_region ?_
   iterate 2 (refine aops_chunk 1 fun Q0 q0 => ?_; simp only [↓bO, go_sem, seval, Tok.cells, qC, partC, List.take, List.drop]; refine q0 _ ?_; clear q0 Q0; simp only [go_sem])
   refine aops_chunk 1 fun Q0 q0 => ?_
   simp only [↓bO, go_sem, seval, Tok.cells, qC, partC, List.take, List.drop]
   refine QEx.at (k := 0) hY ?_ rfl (by first | omega | (simp only; omega)) ?_
   · exact ⟨.ptr rfl, .v _, trivial⟩
   intro q hq
   simp only [partC, putO, Nat.reduceEqDiff, ↓reduceIte]
   try simp only [bS, bA, thenQ, blockQ, noGotoQ]
   refine q0 _ ?_
   clear q0 Q0
   simp only [go_sem]
   refine aops_chunk 1 fun Q0 q0 => ?_
   simp only [↓bO, go_sem, seval, Tok.cells, qC, partC, List.take, List.drop]
   refine q0 _ ?_
   clear q0 Q0
   simp only [go_sem]
   simp only [↓bO, go_sem, seval, Tok.cells, qC, partC, List.take, List.drop]
   refine y0 _ ?_
   try clear y0 Y0
   refine AWp_seqK fun Y0 y0 => ?_
   refine AWp_region ?_
   iterate 4 (refine aops_chunk 1 fun Q0 q0 => ?_; simp only [↓bO, go_sem, seval, Tok.cells, qC, partC, List.take, List.drop]; refine q0 _ ?_; clear q0 Q0; simp only [go_sem])
   refine aops_chunk 1 fun Q0 q0 => ?_
   simp only [↓bO, go_sem, seval, ↓bs2_1, ↓bs2_2, ↓bs2_3, ↓bs2_4, ↓bs2_5, ↓bs2_6, ↓bs2_7, ↓bs2_8, ↓bs2_9, ↓bs2_10, ↓bs2_11, ↓bs2_12, Tok.cells, qC, partC, List.take, List.drop]
   refine q0 _ ?_
   clear q0 Q0
   simp only [go_sem]
   refine aops_chunk 1 fun Q0 q0 => ?_
   simp only [↓bO, go_sem, seval, Tok.cells, qC, partC, List.take, List.drop]
   refine q0 _ ?_
   clear q0 Q0
   simp only [go_sem]
   simp only [↓bO, go_sem, seval, Tok.cells, qC, partC, List.take, List.drop]
   refine y0 _ ?_
   try clear y0 Y0
   refine AWp_seqK fun Y0 y0 => ?_
   refine AAny_start [] 4 rfl mixed (trivial) rfl ?_
   dsimp only
   refine AAny_all2 (i := 0) (j := 1) (by kernel_rfl) ?_ ?_
   ·
    refine aAt_op rfl rfl fun Q0 q0 => ?_
    simp only [↓bO, go_sem, seval, Tok.cells, qC, partC, List.take, List.drop]
    refine q0 _ ⟨trivial, ?_⟩
    clear q0 Q0
    refine AAny_all2 (i := 1) (j := 2) (by kernel_rfl) ?_ ?_
    ·
     refine aAt_op rfl rfl fun Q0 q0 => ?_
     simp only [↓bO, go_sem, seval, Tok.cells, qC, partC, List.take, List.drop]
     refine q0 _ ⟨trivial, ?_⟩
     clear q0 Q0
     refine AAny_all1 (i := 2) (by kernel_rfl) ?_
     ·
      refine aAt_op rfl rfl fun Q0 q0 => ?_
      simp only [↓bO, go_sem, seval, Tok.cells, qC, partC, List.take, List.drop]
      refine q0 _ ⟨trivial, ?_⟩
      clear q0 Q0
      refine AAny_all1 (i := 3) (by kernel_rfl) ?_
      ·
       refine aAt_op rfl rfl fun Q0 q0 => ?_
       simp only [↓bO, go_sem, seval, Tok.cells, qC, partC, List.take, List.drop]
       refine q0 _ ⟨trivial, ?_⟩
       clear q0 Q0
       refine AAny_done (by kernel_rfl) ?_
       simp only [thenQ, blockQ, noGotoQ]
       refine y0 _ ?_
       try clear y0 Y0
       refine AWp_ret ?_
       try simp only [thenQ, blockQ, noGotoQ, retQ, aRes, tupOf, bS, bA, aLoad, getO, pack, bL, Nat.reduceAdd, Nat.reduceLeDiff, Nat.reduceEqDiff, ↓reduceIte, ti40, ti102, tyX, Tok.cells, List.length_map, qC, partC, List.take, List.drop]
       refine ⟨_, _, ⟨(tm 7 s 0 [p.1, q.1] (0, 0), q), fun h => ⟨7, s, [p.1, q.1], Y.i, rfl, ?_⟩, rfl, rfl⟩, ?_, qUnd (by omega) _ _ _ _, ?_, ?_, by omega⟩
       · rw [(r3 h).2, foEnd_eta, hp (r3 h).1, hq (r2.symm.trans h)]
       · exact .data (.tup (.cons (Tm.dataAgg _) (.cons (.agg (partC_data q)) .nil)))
       ·
        show Le _ (.tup [.agg (tm 7 s 0 [p.1, q.1] (0, 0)).cells, .agg (partC q)])
        rw [Tm.tmCells]
        simp only [List.map_cons, List.map_nil, partT]
        exact Le.tup ⟨Le.agg ⟨.refl _, .refl _, .refl _, .refl _, .refl _, Le.slNil 3, .refl _, .refl _, .refl _, trivial⟩, .refl _, trivial⟩
       ·
        rw [r1, r2]
        first | exact ⟨2, rfl, rfl⟩ | exact ⟨3, rfl, rfl⟩ | exact ⟨4, rfl, rfl⟩ | exact ⟨5, rfl, rfl⟩ | exact ⟨6, rfl, rfl⟩ | exact ⟨7, rfl, rfl⟩
    ·
     refine aAt_op rfl rfl fun Q0 q0 => ?_
     simp only [↓bO, go_sem, seval, Tok.cells, qC, partC, List.take, List.drop]
     refine q0 _ ⟨trivial, ?_⟩
     clear q0 Q0
     refine AAny_all1 (i := 1) (by kernel_rfl) ?_
     ·
      refine aAt_op rfl rfl fun Q0 q0 => ?_
      simp only [↓bO, go_sem, seval, Tok.cells, qC, partC, List.take, List.drop]
      refine q0 _ ⟨trivial, ?_⟩
      clear q0 Q0
      refine AAny_all1 (i := 3) (by kernel_rfl) ?_
      ·
       refine aAt_op rfl rfl fun Q0 q0 => ?_
       simp only [↓bO, go_sem, seval, Tok.cells, qC, partC, List.take, List.drop]
       refine q0 _ ⟨trivial, ?_⟩
       clear q0 Q0
       refine AAny_done (by kernel_rfl) ?_
       simp only [thenQ, blockQ, noGotoQ]
       refine y0 _ ?_
       try clear y0 Y0
       refine AWp_ret ?_
       try simp only [thenQ, blockQ, noGotoQ, retQ, aRes, tupOf, bS, bA, aLoad, getO, pack, bL, Nat.reduceAdd, Nat.reduceLeDiff, Nat.reduceEqDiff, ↓reduceIte, ti40, ti102, tyX, Tok.cells, List.length_map, qC, partC, List.take, List.drop]
       refine ⟨_, _, ⟨(tm 7 s 0 [p.1, q.1] (0, 0), q), fun h => ⟨7, s, [p.1, q.1], Y.i, rfl, ?_⟩, rfl, rfl⟩, ?_, qUnd (by omega) _ _ _ _, ?_, ?_, by omega⟩
       · rw [(r3 h).2, foEnd_eta, hp (r3 h).1, hq (r2.symm.trans h)]
       · exact .data (.tup (.cons (Tm.dataAgg _) (.cons (.agg (partC_data q)) .nil)))
       ·
        show Le _ (.tup [.agg (tm 7 s 0 [p.1, q.1] (0, 0)).cells, .agg (partC q)])
        rw [Tm.tmCells]
        simp only [List.map_cons, List.map_nil, partT]
        exact Le.tup ⟨Le.agg ⟨.refl _, .refl _, .refl _, .refl _, .refl _, Le.slNil 3, .refl _, .refl _, .refl _, trivial⟩, .refl _, trivial⟩
       ·
        rw [r1, r2]
        first | exact ⟨2, rfl, rfl⟩ | exact ⟨3, rfl, rfl⟩ | exact ⟨4, rfl, rfl⟩ | exact ⟨5, rfl, rfl⟩ | exact ⟨6, rfl, rfl⟩ | exact ⟨7, rfl, rfl⟩
   ·
    refine aAt_op rfl rfl fun Q0 q0 => ?_
    simp only [↓bO, go_sem, seval, Tok.cells, qC, partC, List.take, List.drop]
    refine q0 _ ⟨trivial, ?_⟩
    clear q0 Q0
    refine AAny_all1 (i := 0) (by kernel_rfl) ?_
    ·
     refine aAt_op rfl rfl fun Q0 q0 => ?_
     simp only [↓bO, go_sem, seval, Tok.cells, qC, partC, List.take, List.drop]
     refine q0 _ ⟨trivial, ?_⟩
     clear q0 Q0
     refine AAny_all1 (i := 2) (by kernel_rfl) ?_
     ·
      refine aAt_op rfl rfl fun Q0 q0 => ?_
      simp only [↓bO, go_sem, seval, Tok.cells, qC, partC, List.take, List.drop]
      refine q0 _ ⟨trivial, ?_⟩
      clear q0 Q0
      refine AAny_all1 (i := 3) (by kernel_rfl) ?_
      ·
       refine aAt_op rfl rfl fun Q0 q0 => ?_
       simp only [↓bO, go_sem, seval, Tok.cells, qC, partC, List.take, List.drop]
       refine q0 _ ⟨trivial, ?_⟩
       clear q0 Q0
       refine AAny_done (by kernel_rfl) ?_
       simp only [thenQ, blockQ, noGotoQ]
       refine y0 _ ?_
       try clear y0 Y0
       refine AWp_ret ?_
       try simp only [thenQ, blockQ, noGotoQ, retQ, aRes, tupOf, bS, bA, aLoad, getO, pack, bL, Nat.reduceAdd, Nat.reduceLeDiff, Nat.reduceEqDiff, ↓reduceIte, ti40, ti102, tyX, Tok.cells, List.length_map, qC, partC, List.take, List.drop]
       refine ⟨_, _, ⟨(tm 7 s 0 [p.1, q.1] (0, 0), q), fun h => ⟨7, s, [p.1, q.1], Y.i, rfl, ?_⟩, rfl, rfl⟩, ?_, qUnd (by omega) _ _ _ _, ?_, ?_, by omega⟩
       · rw [(r3 h).2, foEnd_eta, hp (r3 h).1, hq (r2.symm.trans h)]
       · exact .data (.tup (.cons (Tm.dataAgg _) (.cons (.agg (partC_data q)) .nil)))
       ·
        show Le _ (.tup [.agg (tm 7 s 0 [p.1, q.1] (0, 0)).cells, .agg (partC q)])
        rw [Tm.tmCells]
        simp only [List.map_cons, List.map_nil, partT]
        exact Le.tup ⟨Le.agg ⟨.refl _, .refl _, .refl _, .refl _, .refl _, Le.slNil 3, .refl _, .refl _, .refl _, trivial⟩, .refl _, trivial⟩
       ·
        rw [r1, r2]
        first | exact ⟨2, rfl, rfl⟩ | exact ⟨3, rfl, rfl⟩ | exact ⟨4, rfl, rfl⟩ | exact ⟨5, rfl, rfl⟩ | exact ⟨6, rfl, rfl⟩ | exact ⟨7, rfl, rfl⟩
  ·
   have h1 : isT l ((i + 1 : Nat) : Int) 3 bRec = false := hb13
   simp only [h1, Bool.false_eq_true, if_false]
   rw [if_neg (by rw [h1]; simp)] at hr
   subst hr
   obtain ⟨j1, d1, s, hN, hn⟩ := name_g l m (i + 1) hl
   obtain ⟨j2, d2, hW, hw⟩ := want_g l m j1 d1 4 bEq hl
   have g1 : i + 1 ≤ j1 ∧ j1 ≤ l.length := by
    rcases hn with ⟨a, b, _⟩ | ⟨a, b, _⟩
    ·
     have := kdT_lt a
     omega
    · omega
   have hwb : j1 ≤ j2 ∧ j2 ≤ l.length := by
    rcases hw with ⟨_, a, b, _⟩ | ⟨_, a, b, _⟩ | ⟨_, b, _⟩
    ·
     have := isT_ltN a
     omega
    · omega
    · omega
   obtain ⟨X, hX, x1, x2, hx⟩ := ex_g hP hR j2 (n + 1) d2 (fun _ => by omega) (by omega) (by omega) (by omega)
   obtain ⟨j3, d3, hW2, hw2⟩ := want_g l m X.i X.e 3 bIn hl
   have hw2b : X.i ≤ j3 ∧ j3 ≤ l.length := by
    rcases hw2 with ⟨_, a, b, _⟩ | ⟨_, a, b, _⟩ | ⟨_, b, _⟩
    ·
     have := isT_ltN a
     omega
    · omega
    · omega
   obtain ⟨Y, hY, y1, y2, hy⟩ := ex_g hP hR j3 (n + 1) d3 (fun _ => by omega) (by omega) (by omega) (by omega)
   obtain ⟨r1, r2, r3⟩ := letR_eq (E := rx l m f) (n := n) (k := 6) (i0 := i) hn hw (hx.imp (fun h => ⟨h.1, h.2.1⟩) id) hw2 (hy.imp (fun h => ⟨h.1, h.2.1⟩) id)
   refine AWp_skip ?_
   try simp only [thenQ, blockQ, noGotoQ]
   refine y0 _ ?_
   try clear y0 Y0
   refine AWp_seqK fun Y0 y0 => ?_
   refine AWp_region ?_
   refine aops_chunk 1 fun Q0 q0 => ?_
   simp only [↓bO, go_sem, seval, Tok.cells, qC, partC, List.take, List.drop]
   refine q0 _ ?_
   clear q0 Q0
   simp only [go_sem]
   refine aops_chunk 1 fun Q0 q0 => ?_
   simp only [↓bO, go_sem, seval, Tok.cells, qC, partC, List.take, List.drop]
   refine QCalls.at (k := 0) hN ?_ (.v _) rfl (by first | omega | (simp only; omega)) ?_
   · exact ⟨.ptr rfl, trivial⟩
   simp only [putO, Nat.reduceEqDiff, ↓reduceIte]
   try simp only [bS, bA, thenQ, blockQ, noGotoQ]
   refine q0 _ ?_
   clear q0 Q0
   simp only [go_sem]
   refine aops_chunk 1 fun Q0 q0 => ?_
   simp only [↓bO, go_sem, seval, Tok.cells, qC, partC, List.take, List.drop]
   refine q0 _ ?_
   clear q0 Q0
   simp only [go_sem]
   simp only [↓bO, go_sem, seval, Tok.cells, qC, partC, List.take, List.drop]
   refine y0 _ ?_
   try clear y0 Y0
   refine AWp_seqK fun Y0 y0 => ?_
   refine AWp_region ?_
   refine aops_chunk 1 fun Q0 q0 => ?_
   simp only [↓bO, go_sem, seval, Tok.cells, qC, partC, List.take, List.drop]
   refine q0 _ ?_
   clear q0 Q0
   simp only [go_sem]
   simp only [↓bO, go_sem, seval, Tok.cells, qC, partC, List.take, List.drop]
   refine QCalls.at (k := 0) hW ?_ (.tup .nil) rfl (by first | omega | (simp only; omega)) ?_
   · exact ⟨.ptr rfl, .v _, .v _, trivial⟩
   simp only [putO, Nat.reduceEqDiff, ↓reduceIte]
   try simp only [bS, bA, thenQ, blockQ, noGotoQ]
   refine y0 _ ?_
   try clear y0 Y0
   refine AWp_seqK fun Y0 y0 => ?_
   refine AWp_region ?_
   iterate 2 (refine aops_chunk 1 fun Q0 q0 => ?_; simp only [↓bO, go_sem, seval, Tok.cells, qC, partC, List.take, List.drop]; refine q0 _ ?_; clear q0 Q0; simp only [go_sem])
   refine aops_chunk 1 fun Q0 q0 => ?_
   simp only [↓bO, go_sem, seval, Tok.cells, qC, partC, List.take, List.drop]
   refine QEx.at (k := 0) hX ?_ rfl (by first | omega | (simp only; omega)) ?_
   · exact ⟨.ptr rfl, .v _, trivial⟩
   intro p hp
   simp only [partC, putO, Nat.reduceEqDiff, ↓reduceIte]
   try simp only [bS, bA, thenQ, blockQ, noGotoQ]
   refine q0 _ ?_
   clear q0 Q0
   simp only [go_sem]
   refine aops_chunk 1 fun Q0 q0 => ?_
   simp only [↓bO, go_sem, seval, Tok.cells, qC, partC, List.take, List.drop]
   refine q0 _ ?_
   clear q0 Q0
   simp only [go_sem]
   simp only [↓bO, go_sem, seval, Tok.cells, qC, partC, List.take, List.drop]
   refine y0 _ ?_
   try clear y0 Y0
   refine AWp_seqK fun Y0 y0 => ?_
   refine AWp_region ?_
   refine aops_chunk 1 fun Q0 q0 => ?_
   simp only [↓bO, go_sem, seval, Tok.cells, qC, partC, List.take, List.drop]
   refine q0 _ ?_
   clear q0 Q0
   simp only [go_sem]
   simp only [↓bO, go_sem, seval, Tok.cells, qC, partC, List.take, List.drop]
   refine QCalls.at (k := 0) hW2 ?_ (.tup .nil) rfl (by first | omega | (simp only; omega)) ?_
   · exact ⟨.ptr rfl, .v _, .v _, trivial⟩
   simp only [putO, Nat.reduceEqDiff, ↓reduceIte]
   try simp only [bS, bA, thenQ, blockQ, noGotoQ]
   refine y0 _ ?_
   try clear y0 Y0
   refine AWp_seqK fun Y0 y0 => ?_
   refine AWp_region ?_
   iterate 2 (refine aops_chunk 1 fun Q0 q0 => ?_; simp only [↓bO, go_sem, seval, Tok.cells, qC, partC, List.take, List.drop]; refine q0 _ ?_; clear q0 Q0; simp only [go_sem])
   refine aops_chunk 1 fun Q0 q0 => ?_
   simp only [↓bO, go_sem, seval, Tok.cells, qC, partC, List.take, List.drop]
   refine QEx.at (k := 0) hY ?_ rfl (by first | omega | (simp only; omega)) ?_
   · exact ⟨.ptr rfl, .v _, trivial⟩
   intro q hq
   simp only [partC, putO, Nat.reduceEqDiff, ↓reduceIte]
   try simp only [bS, bA, thenQ, blockQ, noGotoQ]
   refine q0 _ ?_
   clear q0 Q0
   simp only [go_sem]
   refine aops_chunk 1 fun Q0 q0 => ?_
   simp only [↓bO, go_sem, seval, Tok.cells, qC, partC, List.take, List.drop]
   refine q0 _ ?_
   clear q0 Q0
   simp only [go_sem]
   simp only [↓bO, go_sem, seval, Tok.cells, qC, partC, List.take, List.drop]
   refine y0 _ ?_
   try clear y0 Y0
   refine AWp_seqK fun Y0 y0 => ?_
   refine AWp_region ?_
   iterate 4 (refine aops_chunk 1 fun Q0 q0 => ?_; simp only [↓bO, go_sem, seval, Tok.cells, qC, partC, List.take, List.drop]; refine q0 _ ?_; clear q0 Q0; simp only [go_sem])
   refine aops_chunk 1 fun Q0 q0 => ?_
   simp only [↓bO, go_sem, seval, ↓bs2_1, ↓bs2_2, ↓bs2_3, ↓bs2_4, ↓bs2_5, ↓bs2_6, ↓bs2_7, ↓bs2_8, ↓bs2_9, ↓bs2_10, ↓bs2_11, ↓bs2_12, Tok.cells, qC, partC, List.take, List.drop]
   refine q0 _ ?_
   clear q0 Q0
   simp only [go_sem]
   refine aops_chunk 1 fun Q0 q0 => ?_
   simp only [↓bO, go_sem, seval, Tok.cells, qC, partC, List.take, List.drop]
   refine q0 _ ?_
   clear q0 Q0
   simp only [go_sem]
   simp only [↓bO, go_sem, seval, Tok.cells, qC, partC, List.take, List.drop]
   refine y0 _ ?_
   try clear y0 Y0
   refine AWp_seqK fun Y0 y0 => ?_
   refine AAny_start [] 4 rfl mixed (trivial) rfl ?_
   dsimp only
   refine AAny_all2 (i := 0) (j := 1) (by kernel_rfl) ?_ ?_
   ·
    refine aAt_op rfl rfl fun Q0 q0 => ?_
    simp only [↓bO, go_sem, seval, Tok.cells, qC, partC, List.take, List.drop]
    refine q0 _ ⟨trivial, ?_⟩
    clear q0 Q0
    refine AAny_all2 (i := 1) (j := 2) (by kernel_rfl) ?_ ?_
    ·
     refine aAt_op rfl rfl fun Q0 q0 => ?_
     simp only [↓bO, go_sem, seval, Tok.cells, qC, partC, List.take, List.drop]
     refine q0 _ ⟨trivial, ?_⟩
     clear q0 Q0
     refine AAny_all1 (i := 2) (by kernel_rfl) ?_
     ·
      refine aAt_op rfl rfl fun Q0 q0 => ?_
      simp only [↓bO, go_sem, seval, Tok.cells, qC, partC, List.take, List.drop]
      refine q0 _ ⟨trivial, ?_⟩
      clear q0 Q0
      refine AAny_all1 (i := 3) (by kernel_rfl) ?_
      ·
       refine aAt_op rfl rfl fun Q0 q0 => ?_
       simp only [↓bO, go_sem, seval, Tok.cells, qC, partC, List.take, List.drop]
       refine q0 _ ⟨trivial, ?_⟩
       clear q0 Q0
       refine AAny_done (by kernel_rfl) ?_
       simp only [thenQ, blockQ, noGotoQ]
       refine y0 _ ?_
       try clear y0 Y0
       refine AWp_ret ?_
       try simp only [thenQ, blockQ, noGotoQ, retQ, aRes, tupOf, bS, bA, aLoad, getO, pack, bL, Nat.reduceAdd, Nat.reduceLeDiff, Nat.reduceEqDiff, ↓reduceIte, ti40, ti102, tyX, Tok.cells, List.length_map, qC, partC, List.take, List.drop]
       refine ⟨_, _, ⟨(tm 6 s 0 [p.1, q.1] (0, 0), q), fun h => ⟨6, s, [p.1, q.1], Y.i, rfl, ?_⟩, rfl, rfl⟩, ?_, qUnd (by omega) _ _ _ _, ?_, ?_, by omega⟩
       · rw [(r3 h).2, foEnd_eta, hp (r3 h).1, hq (r2.symm.trans h)]
       · exact .data (.tup (.cons (Tm.dataAgg _) (.cons (.agg (partC_data q)) .nil)))
       ·
        show Le _ (.tup [.agg (tm 6 s 0 [p.1, q.1] (0, 0)).cells, .agg (partC q)])
        rw [Tm.tmCells]
        simp only [List.map_cons, List.map_nil, partT]
        exact Le.tup ⟨Le.agg ⟨.refl _, .refl _, .refl _, .refl _, .refl _, Le.slNil 3, .refl _, .refl _, .refl _, trivial⟩, .refl _, trivial⟩
       ·
        rw [r1, r2]
        first | exact ⟨2, rfl, rfl⟩ | exact ⟨3, rfl, rfl⟩ | exact ⟨4, rfl, rfl⟩ | exact ⟨5, rfl, rfl⟩ | exact ⟨6, rfl, rfl⟩ | exact ⟨7, rfl, rfl⟩
    ·
     refine aAt_op rfl rfl fun Q0 q0 => ?_
     simp only [↓bO, go_sem, seval, Tok.cells, qC, partC, List.take, List.drop]
     refine q0 _ ⟨trivial, ?_⟩
     clear q0 Q0
     refine AAny_all1 (i := 1) (by kernel_rfl) ?_
     ·
      refine aAt_op rfl rfl fun Q0 q0 => ?_
      simp only [↓bO, go_sem, seval, Tok.cells, qC, partC, List.take, List.drop]
      refine q0 _ ⟨trivial, ?_⟩
      clear q0 Q0
      refine AAny_all1 (i := 3) (by kernel_rfl) ?_
      ·
       refine aAt_op rfl rfl fun Q0 q0 => ?_
       simp only [↓bO, go_sem, seval, Tok.cells, qC, partC, List.take, List.drop]
       refine q0 _ ⟨trivial, ?_⟩
       clear q0 Q0
       refine AAny_done (by kernel_rfl) ?_
       simp only [thenQ, blockQ, noGotoQ]
       refine y0 _ ?_
       try clear y0 Y0
       refine AWp_ret ?_
       try simp only [thenQ, blockQ, noGotoQ, retQ, aRes, tupOf, bS, bA, aLoad, getO, pack, bL, Nat.reduceAdd, Nat.reduceLeDiff, Nat.reduceEqDiff, ↓reduceIte, ti40, ti102, tyX, Tok.cells, List.length_map, qC, partC, List.take, List.drop]
       refine ⟨_, _, ⟨(tm 6 s 0 [p.1, q.1] (0, 0), q), fun h => ⟨6, s, [p.1, q.1], Y.i, rfl, ?_⟩, rfl, rfl⟩, ?_, qUnd (by omega) _ _ _ _, ?_, ?_, by omega⟩
       · rw [(r3 h).2, foEnd_eta, hp (r3 h).1, hq (r2.symm.trans h)]
       · exact .data (.tup (.cons (Tm.dataAgg _) (.cons (.agg (partC_data q)) .nil)))
       ·
        show Le _ (.tup [.agg (tm 6 s 0 [p.1, q.1] (0, 0)).cells, .agg (partC q)])
        rw [Tm.tmCells]
        simp only [List.map_cons, List.map_nil, partT]
        exact Le.tup ⟨Le.agg ⟨.refl _, .refl _, .refl _, .refl _, .refl _, Le.slNil 3, .refl _, .refl _, .refl _, trivial⟩, .refl _, trivial⟩
       ·
        rw [r1, r2]
        first | exact ⟨2, rfl, rfl⟩ | exact ⟨3, rfl, rfl⟩ | exact ⟨4, rfl, rfl⟩ | exact ⟨5, rfl, rfl⟩ | exact ⟨6, rfl, rfl⟩ | exact ⟨7, rfl, rfl⟩
   ·
    refine aAt_op rfl rfl fun Q0 q0 => ?_
    simp only [↓bO, go_sem, seval, Tok.cells, qC, partC, List.take, List.drop]
    refine q0 _ ⟨trivial, ?_⟩
    clear q0 Q0
    refine AAny_all1 (i := 0) (by kernel_rfl) ?_
    ·
     refine aAt_op rfl rfl fun Q0 q0 => ?_
     simp only [↓bO, go_sem, seval, Tok.cells, qC, partC, List.take, List.drop]
     refine q0 _ ⟨trivial, ?_⟩
     clear q0 Q0
     refine AAny_all1 (i := 2) (by kernel_rfl) ?_
     ·
      refine aAt_op rfl rfl fun Q0 q0 => ?_
      simp only [↓bO, go_sem, seval, Tok.cells, qC, partC, List.take, List.drop]
      refine q0 _ ⟨trivial, ?_⟩
      clear q0 Q0
      refine AAny_all1 (i := 3) (by kernel_rfl) ?_
      ·
       refine aAt_op rfl rfl fun Q0 q0 => ?_
       simp only [↓bO, go_sem, seval, Tok.cells, qC, partC, List.take, List.drop]
       refine q0 _ ⟨trivial, ?_⟩
       clear q0 Q0
       refine AAny_done (by kernel_rfl) ?_
       simp only [thenQ, blockQ, noGotoQ]
       refine y0 _ ?_
       try clear y0 Y0
       refine AWp_ret ?_
       try simp only [thenQ, blockQ, noGotoQ, retQ, aRes, tupOf, bS, bA, aLoad, getO, pack, bL, Nat.reduceAdd, Nat.reduceLeDiff, Nat.reduceEqDiff, ↓reduceIte, ti40, ti102, tyX, Tok.cells, List.length_map, qC, partC, List.take, List.drop]
       refine ⟨_, _, ⟨(tm 6 s 0 [p.1, q.1] (0, 0), q), fun h => ⟨6, s, [p.1, q.1], Y.i, rfl, ?_⟩, rfl, rfl⟩, ?_, qUnd (by omega) _ _ _ _, ?_, ?_, by omega⟩
       · rw [(r3 h).2, foEnd_eta, hp (r3 h).1, hq (r2.symm.trans h)]
       · exact .data (.tup (.cons (Tm.dataAgg _) (.cons (.agg (partC_data q)) .nil)))
       ·
        show Le _ (.tup [.agg (tm 6 s 0 [p.1, q.1] (0, 0)).cells, .agg (partC q)])
        rw [Tm.tmCells]
        simp only [List.map_cons, List.map_nil, partT]
        exact Le.tup ⟨Le.agg ⟨.refl _, .refl _, .refl _, .refl _, .refl _, Le.slNil 3, .refl _, .refl _, .refl _, trivial⟩, .refl _, trivial⟩
       ·
        rw [r1, r2]
        first | exact ⟨2, rfl, rfl⟩ | exact ⟨3, rfl, rfl⟩ | exact ⟨4, rfl, rfl⟩ | exact ⟨5, rfl, rfl⟩ | exact ⟨6, rfl, rfl⟩ | exact ⟨7, rfl, rfl⟩
theorem choice_q (l : List Tok) (m : Int) (f i : Nat) (n : Int) (hl : l.length ≤ 1048576) (hP : PxOk l m f) (hR : ROk l m f) (hi : i < l.length) (hf : l.length - i ≤ f) (h3 : -1000000 ≤ n) (h4 : n + (l.length - i : Nat) ≤ 700000) : QFo 81 [.ptr 0 0, .v (.int .i64 (n + 1))] l m (i + 1) (i) (ifR (rx l m f) l i n) := by
  obtain ⟨X, hX, x1, x2, hx⟩ := ex_g hP hR (i + 1) (n + 1) 0 (fun _ => by omega) (by omega) (by omega) (by omega)
  obtain ⟨j1, d1, hW, hw⟩ := want_g l m X.i X.e 3 bThen hl
  have hwb : X.i ≤ j1 ∧ j1 ≤ l.length := by
    rcases hw with ⟨_, a, b, _⟩ | ⟨_, a, b, _⟩ | ⟨_, b, _⟩
    · have := isT_ltN a
      omega
    · omega
    · omega
  obtain ⟨Y, hY, y1, y2, hy⟩ := ex_g hP hR j1 (n + 1) d1 (fun _ => by omega) (by omega) (by omega) (by omega)
  obtain ⟨j2, d2, hW2, hw2⟩ := want_g l m Y.i Y.e 3 bElse hl
  have hw2b : Y.i ≤ j2 ∧ j2 ≤ l.length := by
    rcases hw2 with ⟨_, a, b, _⟩ | ⟨_, a, b, _⟩ | ⟨_, b, _⟩
    · have := isT_ltN a
      omega
    · omega
    · omega
  obtain ⟨Z, hZ, z1, z2, hz⟩ := ex_g hP hR j2 (n + 1) d2 (fun _ => by omega) (by omega) (by omega) (by omega)
  have hX0 : X = rx l m f (i + 1) (n + 1) := XD.ok (hx.imp (fun h => ⟨h.1, h.2.1⟩) id)
  obtain ⟨r1, r2, r3⟩ := ifR_eq (E := rx l m f) (n := n) hX0 hw (hy.imp (fun h => ⟨h.1, h.2.1⟩) id) hw2 (hz.imp (fun h => ⟨h.1, h.2.1⟩) id)
  refine ACalls.clean (C := fun v os => ∃ p : Tm × Pt, ((ifR (rx l m f) l i n).e = 0 → ∃ k s ps j, p.1 = tm k s 0 ps (0, 0) ∧ ifR (rx l m f) l i n = foEnd l k s i ps ⟨p.2.1, p.2.2.1, p.2.2.2, j, 0⟩) ∧ v = .tup [.agg p.1.cells, .agg (partC p.2)] ∧ os = enumO 0 [.cells 78 (qC l (ifR (rx l m f) l i n).i m (ifR (rx l m f) l i n).e)]) ?_
  refine ACalls_intro Tryd.func81 (by kernel_rfl) rfl (by rw [Tryd.ntmps81]; simp) (fun hm => ?_)
  simp only [Tryd.ntmps81, Tryd.results81, List.length_cons, List.length_nil, Nat.reduceAdd, Nat.reduceSub, List.replicate_succ, List.replicate_zero, List.cons_append, List.nil_append]
  refine AWp_seqK fun Y0 y0 => ?_
  refine AWp_region ?_
  refine aops_chunk 1 fun Q0 q0 => ?_
  simp only [↓bO, go_sem, seval, Tok.cells, qC, partC, List.take, List.drop]
  refine q0 _ ?_
  clear q0 Q0
  simp only [go_sem]
  simp only [↓bO, go_sem, seval, Tok.cells, qC, partC, List.take, List.drop]
  refine y0 _ ?_
  try clear y0 Y0
  refine AWp_seqK fun Y0 y0 => ?_
  refine AWp_region ?_
  iterate 2 (refine aops_chunk 1 fun Q0 q0 => ?_; simp only [↓bO, go_sem, seval, Tok.cells, qC, partC, List.take, List.drop]; refine q0 _ ?_; clear q0 Q0; simp only [go_sem])
  refine aops_chunk 1 fun Q0 q0 => ?_
  simp only [↓bO, go_sem, seval, Tok.cells, qC, partC, List.take, List.drop]
  refine QEx.at (k := 0) hX ?_ rfl (by first | omega | (simp only; omega)) ?_
  · exact ⟨.ptr rfl, .v _, trivial⟩
  intro p hp
  simp only [partC, putO, Nat.reduceEqDiff, ↓reduceIte]
  try simp only [bS, bA, thenQ, blockQ, noGotoQ]
  refine q0 _ ?_
  clear q0 Q0
  simp only [go_sem]
  refine aops_chunk 1 fun Q0 q0 => ?_
  simp only [↓bO, go_sem, seval, Tok.cells, qC, partC, List.take, List.drop]
  refine q0 _ ?_
  clear q0 Q0
  simp only [go_sem]
  simp only [↓bO, go_sem, seval, Tok.cells, qC, partC, List.take, List.drop]
  refine y0 _ ?_
  try clear y0 Y0
  refine AWp_seqK fun Y0 y0 => ?_
  refine AWp_region ?_
  refine aops_chunk 1 fun Q0 q0 => ?_
  simp only [↓bO, go_sem, seval, Tok.cells, qC, partC, List.take, List.drop]
  refine q0 _ ?_
  clear q0 Q0
  simp only [go_sem]
  simp only [↓bO, go_sem, seval, Tok.cells, qC, partC, List.take, List.drop]
  refine QCalls.at (k := 0) hW ?_ (.tup .nil) rfl (by first | omega | (simp only; omega)) ?_
  · exact ⟨.ptr rfl, .v _, .v _, trivial⟩
  simp only [putO, Nat.reduceEqDiff, ↓reduceIte]
  try simp only [bS, bA, thenQ, blockQ, noGotoQ]
  refine y0 _ ?_
  try clear y0 Y0
  refine AWp_seqK fun Y0 y0 => ?_
  refine AWp_region ?_
  iterate 2 (refine aops_chunk 1 fun Q0 q0 => ?_; simp only [↓bO, go_sem, seval, Tok.cells, qC, partC, List.take, List.drop]; refine q0 _ ?_; clear q0 Q0; simp only [go_sem])
  refine aops_chunk 1 fun Q0 q0 => ?_
  simp only [↓bO, go_sem, seval, Tok.cells, qC, partC, List.take, List.drop]
  refine QEx.at (k := 0) hY ?_ rfl (by first | omega | (simp only; omega)) ?_
  · exact ⟨.ptr rfl, .v _, trivial⟩
  intro q hq
  simp only [partC, putO, Nat.reduceEqDiff, ↓reduceIte]
  try simp only [bS, bA, thenQ, blockQ, noGotoQ]
  refine q0 _ ?_
  clear q0 Q0
  simp only [go_sem]
  refine aops_chunk 1 fun Q0 q0 => ?_
  simp only [↓bO, go_sem, seval, Tok.cells, qC, partC, List.take, List.drop]
  refine q0 _ ?_
  clear q0 Q0
  simp only [go_sem]
  simp only [↓bO, go_sem, seval, Tok.cells, qC, partC, List.take, List.drop]
  refine y0 _ ?_
  try clear y0 Y0
  refine AWp_seqK fun Y0 y0 => ?_
  refine AWp_region ?_
  refine aops_chunk 1 fun Q0 q0 => ?_
  simp only [↓bO, go_sem, seval, Tok.cells, qC, partC, List.take, List.drop]
  refine q0 _ ?_
  clear q0 Q0
  simp only [go_sem]
  simp only [↓bO, go_sem, seval, Tok.cells, qC, partC, List.take, List.drop]
  refine QCalls.at (k := 0) hW2 ?_ (.tup .nil) rfl (by first | omega | (simp only; omega)) ?_
  · exact ⟨.ptr rfl, .v _, .v _, trivial⟩
  simp only [putO, Nat.reduceEqDiff, ↓reduceIte]
  try simp only [bS, bA, thenQ, blockQ, noGotoQ]
  refine y0 _ ?_
  try clear y0 Y0
  refine AWp_joinF (σ := Pt) (mB 31 496) (fun u => [(6, .eptr (partC p)), (7, .eptr (partC q)), (8, .eptr (partC u))]) (fun u => [(2, .cells 102 [.v (.int .i64 0), .v (.string ByteArray.empty), .v (.int .i64 0), .v (.int .i64 0), .v (.int .i64 0), .v (.slice none 0 0), .v (.slice none 0 0), .v (.int .i64 0), .v (.int .i64 0), .v (.int .i64 0), .v (.int .i64 0)]), (1, .cells 40 [.v (.int .i64 0), .v (.string ByteArray.empty), .v (.int .i64 0), .v (.int .i64 0), .v (.int .i64 0), .v (.slice none 0 0), .v (.slice none 0 0), .v (.int .i64 0), .v (.int .i64 0)]), (0, .cells 78 (qC l Z.i m Z.e))]) 3 (fun u => Z.e = 0 → u = (Z.t, Z.a, Z.b)) ?_ (fun u hu => ?_)
  ·
   refine AWp_region ?_
   iterate 2 (refine aops_chunk 1 fun Q0 q0 => ?_; simp only [↓bO, go_sem, seval, Tok.cells, qC, partC, List.take, List.drop]; refine q0 _ ?_; clear q0 Q0; simp only [go_sem])
   refine aops_chunk 1 fun Q0 q0 => ?_
   simp only [↓bO, go_sem, seval, Tok.cells, qC, partC, List.take, List.drop]
   refine QEx.at (k := 0) hZ ?_ rfl (by first | omega | (simp only; omega)) ?_
   · exact ⟨.ptr rfl, .v _, trivial⟩
   intro u0 hu0
   simp only [partC, putO, Nat.reduceEqDiff, ↓reduceIte]
   try simp only [bS, bA, thenQ, blockQ, noGotoQ]
   refine q0 _ ?_
   clear q0 Q0
   simp only [go_sem]
   refine aops_chunk 1 fun Q0 q0 => ?_
   simp only [↓bO, go_sem, seval, Tok.cells, qC, partC, List.take, List.drop]
   refine q0 _ ?_
   clear q0 Q0
   simp only [go_sem]
   simp only [↓bO, go_sem, seval, Tok.cells, qC, partC, List.take, List.drop]
   try simp only [maskL, setsL, putsO, putO, mB, List.set_cons_zero, List.set_cons_succ, seval]
   refine ⟨u0, hu0, ?_⟩
   refine Weak.freeze ?_ ⟨rfl, rfl, rfl, trivial⟩ (by first | omega | (simp only; omega)) (by first | omega | (simp only; omega)) ?_ ?_
   · repeat' first | trivial | exact .inr ⟨_, _, _, rfl, rfl, rfl, rfl⟩ | exact .inl (.refl _) | exact .inl (.any _) | (refine ⟨?_, ?_⟩)
   · repeat' first | exact trivial | exact .any _ | exact .ptr (by omega) | exact .v _ _ | exact Und.data (.eptr (partC_data _)) | (refine ⟨?_, ?_⟩)
   · repeat' first | exact trivial | exact .v _ _ | exact Und.data (Tok.dataSl _) | (refine ⟨?_, ?_⟩) | omega
  simp only [maskL, setsL, putsO, putO, mB, List.set_cons_zero, List.set_cons_succ, seval]
  simp only [partC]
  refine AWp_seqK fun Y0 y0 => ?_
  refine RAny_start 11 rfl mixed ?_
  dsimp only
  refine RAny_takeK 0 rfl (by kernel_rfl) (by kernel_rfl) (by kernel_rfl) (fun _ _ h => h) fun Q0 q0 => ?_
  simp only [↓bO, go_sem, seval, rHead, isE, isPE, isSE, isSl, Tok.cells, qC, partC, List.take, List.drop]
  refine q0 _ ?_
  clear q0 Q0
  refine RAny_takeK 1 rfl (by kernel_rfl) (by kernel_rfl) (by kernel_rfl) (fun _ _ h => h) fun Q0 q0 => ?_
  simp only [↓bO, go_sem, seval, rHead, isE, isPE, isSE, isSl, Tok.cells, qC, partC, List.take, List.drop]
  refine q0 _ ?_
  clear q0 Q0
  refine RAny_takeK 2 rfl (by kernel_rfl) (by kernel_rfl) (by kernel_rfl) (fun _ _ h => h) fun Q0 q0 => ?_
  simp only [↓bO, go_sem, seval, rHead, isE, isPE, isSE, isSl, Tok.cells, qC, partC, List.take, List.drop]
  refine q0 _ ?_
  clear q0 Q0
  refine RAny_takeK 3 rfl (by kernel_rfl) (by kernel_rfl) (by kernel_rfl) (fun _ _ h => h) fun Q0 q0 => ?_
  simp only [↓bO, go_sem, seval, rHead, isE, isPE, isSE, isSl, Tok.cells, qC, partC, List.take, List.drop]
  refine q0 _ ?_
  clear q0 Q0
  refine RAny_takeK 4 rfl (by kernel_rfl) (by kernel_rfl) (by kernel_rfl) (fun _ _ h => h) fun Q0 q0 => ?_
  simp only [↓bO, go_sem, seval, rHead, isE, isPE, isSE, isSl, Tok.cells, qC, partC, List.take, List.drop]
  refine q0 _ ?_
  clear q0 Q0
  refine RAny_takeK 5 rfl (by kernel_rfl) (by kernel_rfl) (by kernel_rfl) (fun _ _ h => h) fun Q0 q0 => ?_
  simp only [↓bO, go_sem, seval, rHead, isE, isPE, isSE, isSl, Tok.cells, qC, partC, List.take, List.drop]
  refine q0 _ ?_
  clear q0 Q0
  refine RAny_takeK 8 rfl (by kernel_rfl) (by kernel_rfl) (by kernel_rfl) (fun _ _ h => h) fun Q0 q0 => ?_
  simp only [↓bO, go_sem, seval, rHead, isE, isPE, isSE, isSl, Tok.cells, qC, partC, List.take, List.drop]
  refine q0 _ ?_
  clear q0 Q0
  refine RAny_rest ?_
  refine LAny_all1 (i := 6) (by kernel_rfl) ?_
  ·
   refine aAt_op rfl rfl fun Q0 q0 => ?_
   simp only [↓bO, go_sem, seval, ↓bs3_1, ↓bs3_2, ↓bs3_3, ↓bs3_4, ↓bs3_5, ↓bs3_6, ↓bs3_7, ↓bs3_8, ↓bs3_9, ↓bs3_10, ↓bs3_11, ↓bs3_12, Tok.cells, qC, partC, List.take, List.drop]
   refine q0 _ ?_
   clear q0 Q0
   refine LAny_all1 (i := 7) (by kernel_rfl) ?_
   ·
    refine aAt_op rfl rfl fun Q0 q0 => ?_
    simp only [↓bO, go_sem, seval, Tok.cells, qC, partC, List.take, List.drop]
    refine q0 _ ?_
    clear q0 Q0
    refine LAny_all1 (i := 9) (by kernel_rfl) ?_
    ·
     refine aAt_op rfl rfl fun Q0 q0 => ?_
     simp only [↓bO, go_sem, seval, Tok.cells, qC, partC, List.take, List.drop]
     refine q0 _ ?_
     clear q0 Q0
     refine LAny_all1 (i := 10) (by kernel_rfl) ?_
     ·
      refine aAt_op rfl rfl fun Q0 q0 => ?_
      simp only [↓bO, go_sem, seval, Tok.cells, qC, partC, List.take, List.drop]
      refine q0 _ ?_
      clear q0 Q0
      refine LAny_done (by kernel_rfl) ?_
      simp only [thenQ, blockQ, noGotoQ]
      refine y0 _ ?_
      try clear y0 Y0
      refine AWp_ret ?_
      try simp only [thenQ, blockQ, noGotoQ, retQ, aRes, tupOf, bS, bA, aLoad, getO, pack, bL, Nat.reduceAdd, Nat.reduceLeDiff, Nat.reduceEqDiff, ↓reduceIte, ti40, ti102, tyX, Tok.cells, List.length_map, qC, partC, List.take, List.drop]
      refine ⟨_, _, ⟨(tm 8 ByteArray.empty 0 [p.1, q.1, u.1] (0, 0), u), fun h => ⟨8, ByteArray.empty, [p.1, q.1, u.1], Z.i, rfl, ?_⟩, rfl, rfl⟩, ?_, qUnd (by omega) _ _ _ _, ?_, ?_, by omega⟩
      · rw [(r3 h).2.2, foEnd_eta, hp (r3 h).1, hq (r3 h).2.1, hu (r2.symm.trans h)]
      · exact .data (.tup (.cons (Tm.dataAgg _) (.cons (.agg (partC_data u)) .nil)))
      ·
       show Le _ (.tup [.agg (tm 8 ByteArray.empty 0 [p.1, q.1, u.1] (0, 0)).cells, .agg (partC u)])
       rw [Tm.tmCells]
       simp only [List.map_cons, List.map_nil, partT]
       exact Le.tup ⟨Le.agg ⟨.refl _, .refl _, .refl _, .refl _, .refl _, Le.slNil 3, .refl _, .refl _, .refl _, trivial⟩, .refl _, trivial⟩
      ·
       rw [r1, r2]
       first | exact ⟨2, rfl, rfl⟩ | exact ⟨3, rfl, rfl⟩ | exact ⟨4, rfl, rfl⟩ | exact ⟨5, rfl, rfl⟩ | exact ⟨6, rfl, rfl⟩ | exact ⟨7, rfl, rfl⟩
end Go.Proofs.YtkokfdmggdhfmaaDoor
namespace Go.Proofs.YtkokfdmggdhfmaaDoor
open Go Go.RowKit
set_option linter.unusedSimpArgs false
set_option linter.unnecessarySimpa false
set_option linter.unusedVariables false
theorem Rdx.ok.up {l : List Tok} {i j : Nat} {r : Rdx} (h : r.ok l j) (hij : i ≤ j) : r.ok l i := ⟨Nat.le_trans hij h.1, h.2.1, fun he => Nat.lt_of_le_of_lt hij (h.2.2 he)⟩
theorem wr_ok {l : List Tok} {i j : Nat} {e : Int} (h1 : i ≤ j) (h2 : j ≤ l.length) (he : ¬ e = 0) : (wr j e).ok l i := ⟨h1, h2, fun h => absurd h he⟩
theorem wr3_ok {l : List Tok} {i j : Nat} (h1 : i ≤ j) (h2 : j ≤ l.length) : (wr j 3).ok l i := wr_ok h1 h2 (by decide)
theorem beg_lt {l : List Tok} {i : Nat} (h : beg l i = true) : i < l.length := by
  by_cases hi : i < l.length
  · exact hi
  · rw [beg_out hi] at h
    exact absurd h (by simp)
theorem wtR_ok {l : List Tok} {i j : Nat} {k : Int} {s : ByteArray} {K : Rdx} (h1 : i ≤ j) (h2 : j ≤ l.length) (hK : isT l (j : Int) k s = true → K.ok l i) : (wtR l j k s K).ok l i := by
  unfold wtR
  split
  · exact hK ‹_›
  · exact wr3_ok h1 h2
theorem foEnd_ok {l : List Tok} {i : Nat} {k : Int} {s : ByteArray} {i0 : Nat} {ps : List Tm} {r : Rdx} (h : r.ok l i) (he : r.e = 0) : (foEnd l k s i0 ps r).ok l i := ⟨h.1, h.2.1, fun _ => h.2.2 he⟩
section
variable {E : Nat → Int → Rdx} {l : List Tok} {m : Int}
def EOk (E : Nat → Int → Rdx) (l : List Tok) : Prop := ∀ (i : Nat) (n : Int), i ≤ l.length → (E i n).ok l i
theorem anR_ok (i0 : Nat) (n : Int) (t : Tm) (j : Nat) (h : j < l.length) : (anR l m i0 n t j).ok l j := by
  have h1 := rd_mono l m (l.length + 1) none ((j : Int) + 1) (n + 2)
  have h2 := rd_le l m (l.length + 1) none ((j : Int) + 1) (n + 2)
  unfold anR
  generalize hP : rdF l m ((j : Int) + 1) (n + 2) = P
  rw [show rd l m (l.length + 1) none ((j : Int) + 1) (n + 2) = P from hP] at h1 h2
  split
  · split
    · have h3 := isT_lt ‹isT l P.2.1 4 bClo = true›
      refine ⟨?_, ?_, fun _ => ?_⟩
      · show j ≤ P.2.1.toNat + 1
        omega
      · show P.2.1.toNat + 1 ≤ l.length
        omega
      · show j < P.2.1.toNat + 1
        omega
    · exact wr3_ok (by omega) (by omega)
  · exact wr_ok (by omega) (by omega) ‹_›
theorem tpR_ok (hE : EOk E l) (i0 : Nat) (n : Int) : ∀ (f : Nat) (ps : List Tm) (i : Nat), i ≤ l.length → (tpR E l i0 n f ps i).ok l i
  | 0, ps, i, hi => wr3_ok (Nat.le_refl _) hi
  | f + 1, ps, i, hi => by
    unfold tpR
    split
    · have h1 := isT_ltN ‹isT l (i : Int) 4 bCom = true›
      have h2 := hE (i + 1) (n + 1) (by omega)
      split
      · exact wr_ok (Nat.le_refl _) hi (by decide)
      · split
        · exact (tpR_ok hE i0 n f _ _ h2.2.1).up (by have := h2.1; omega)
        · exact h2.up (by omega)
    · split
      · have h1 := isT_ltN ‹isT l (i : Int) 4 bClo = true›
        split
        · exact ⟨by show i ≤ i + 1; omega, by show i + 1 ≤ l.length; omega, fun _ => by show i < i + 1; omega⟩
        · exact ⟨by show i ≤ i + 1; omega, by show i + 1 ≤ l.length; omega, fun _ => by show i < i + 1; omega⟩
      · exact wr3_ok (Nat.le_refl _) hi
theorem brR_ok (hE : EOk E l) (i : Nat) (n : Int) (hi : i < l.length) : (brR E l m i n).ok l i := by
  have h2 := hE (i + 1) (n + 1) (by omega)
  unfold brR
  split
  · split
    · have h1 := isT_ltN ‹isT l ((E (i + 1) (n + 1)).i : Int) 4 bCol = true›
      exact (anR_ok _ _ _ _ h1).up (by have := h2.1; omega)
    · exact (tpR_ok hE _ _ _ _ _ h2.2.1).up (by have := h2.1; omega)
  · exact h2.up (by omega)
theorem atR_ok (hE : EOk E l) (i : Nat) (n : Int) (hi : i ≤ l.length) : (atR E l m i n).ok l i := by
  unfold atR
  split
  · have h1 := beg_lt ‹beg l i = true›
    have h9 : ∀ (t : Tm) (a b : Int), (⟨t, a, b, i + 1, 0⟩ : Rdx).ok l i := fun t a b => ⟨by show i ≤ i + 1; omega, by show i + 1 ≤ l.length; omega, fun _ => by show i < i + 1; omega⟩
    split
    · exact h9 _ _ _
    · split
      · exact h9 _ _ _
      · split
        · exact h9 _ _ _
        · split
          · exact brR_ok hE i n h1
          · exact h9 _ _ _
  · exact wr3_ok (Nat.le_refl _) hi
theorem apR_ok (hE : EOk E l) (i0 : Nat) (n : Int) : ∀ (f : Nat) (r : Rdx), r.ok l i0 → (apR E l m n f r).ok l i0
  | 0, r, hr => hr
  | f + 1, r, hr => by
    unfold apR
    have h2 := atR_ok (m := m) hE r.i n hr.2.1
    split
    · split
      · refine apR_ok hE i0 n f _ ⟨Nat.le_trans hr.1 h2.1, h2.2.1, fun _ => Nat.lt_of_le_of_lt hr.1 (h2.2.2 ‹_›)⟩
      · exact h2.up hr.1
    · exact hr
theorem funR_ok (hE : EOk E l) (i : Nat) (n : Int) (hi : i < l.length) : (funR E l i n).ok l i := by
  unfold funR
  split
  · have h1 := kdT_lt ‹kdT l (i + 1) 1 = true›
    refine wtR_ok (by omega) (by omega) fun h => ?_
    have h2 := isT_ltN h
    have h3 := hE (i + 3) (n + 1) (by omega)
    split
    · exact foEnd_ok (h3.up (by omega)) ‹_›
    · exact h3.up (by omega)
  · exact wr3_ok (by omega) (by omega)
theorem letR_ok (hE : EOk E l) (k : Int) (i0 j : Nat) (n : Int) (hj : j ≤ l.length) : (letR E l k i0 j n).ok l j := by
  unfold letR
  split
  · have h1 := kdT_lt ‹kdT l j 1 = true›
    refine wtR_ok (by omega) (by omega) fun h => ?_
    have h2 := isT_ltN h
    have h3 := hE (j + 2) (n + 1) (by omega)
    split
    · refine wtR_ok (by have := h3.1; omega) h3.2.1 fun h4 => ?_
      have h5 := isT_ltN h4
      have h6 := hE ((E (j + 2) (n + 1)).i + 1) (n + 1) (by omega)
      split
      · exact foEnd_ok (h6.up (by have := h3.1; omega)) ‹_›
      · exact h6.up (by have := h3.1; omega)
    · exact h3.up (by omega)
  · exact wr3_ok (by omega) (by omega)
theorem ifR_ok (hE : EOk E l) (i : Nat) (n : Int) (hi : i < l.length) : (ifR E l i n).ok l i := by
  unfold ifR
  have h3 := hE (i + 1) (n + 1) (by omega)
  split
  · refine wtR_ok (by have := h3.1; omega) h3.2.1 fun h4 => ?_
    have h5 := isT_ltN h4
    have h6 := hE ((E (i + 1) (n + 1)).i + 1) (n + 1) (by omega)
    split
    · refine wtR_ok (by have := h3.1; have := h6.1; omega) h6.2.1 fun h7 => ?_
      have h8 := isT_ltN h7
      have h9 := hE ((E ((E (i + 1) (n + 1)).i + 1) (n + 1)).i + 1) (n + 1) (by omega)
      split
      · exact foEnd_ok (h9.up (by have := h3.1; have := h6.1; omega)) ‹_›
      · exact h9.up (by have := h3.1; have := h6.1; omega)
    · exact h6.up (by have := h3.1; omega)
  · exact h3.up (by omega)
theorem exR_ok (hE : EOk E l) (i : Nat) (n : Int) (hi : i ≤ l.length) : (exR E l m i n).ok l i := by
  unfold exR
  split
  · exact wr_ok (Nat.le_refl _) hi (by decide)
  · split
    · exact funR_ok hE i n (isT_ltN ‹_›)
    · split
      · have h1 := isT_ltN ‹isT l (i : Int) 3 bLet = true›
        split
        · have h2 := isT_ltN ‹isT l ((i + 1 : Nat) : Int) 3 bRec = true›
          exact (letR_ok hE 7 i (i + 2) n (by omega)).up (by omega)
        · exact (letR_ok hE 6 i (i + 1) n (by omega)).up (by omega)
      · split
        · exact ifR_ok hE i n (isT_ltN ‹_›)
        · split
          · exact apR_ok hE i n _ _ (atR_ok hE i n hi)
          · exact atR_ok hE i n hi
end
theorem rx_ok (l : List Tok) (m : Int) : ∀ f, ROk l m f
  | 0 => fun i n hi => wr3_ok (Nat.le_refl _) hi
  | f + 1 => fun i n hi => exR_ok (E := rx l m f) (fun j k hj => rx_ok l m f j k hj) i n hi
theorem apR_bad {E : Nat → Int → Rdx} {l : List Tok} {m n : Int} (f : Nat) {r : Rdx} (h : ¬ r.e = 0) : apR E l m n f r = r := by
  cases f with
  | zero => rfl
  | succ f => unfold apR; rw [if_neg fun g => h g.1]
def rdA (l : List Tok) (m : Int) (f : Nat) (i lv : Int) : Ty × Int × Int :=
  if isT l i 3 bInt then (.mk 2 0 [], i + 1, 0) else if isT l i 3 bBool then (.mk 3 0 [], i + 1, 0)
  else if isT l i 4 bOpen then
    if (rd l m f none (i + 1) (lv + 1)).2.2 = 0 then rd l m f (some [(rd l m f none (i + 1) (lv + 1)).1]) (rd l m f none (i + 1) (lv + 1)).2.1 (lv + 1)
    else (zTy, (rd l m f none (i + 1) (lv + 1)).2.1, (rd l m f none (i + 1) (lv + 1)).2.2)
  else (zTy, i, 3)
def rdT (l : List Tok) (m : Int) (f : Nat) (lv : Int) (r : Ty × Int × Int) : Ty × Int × Int :=
  if r.2.2 = 0 then
    if isT l r.2.1 4 bArrow then
      if (rd l m f none (r.2.1 + 1) (lv + 1)).2.2 = 0 then (.mk 4 0 [r.1, (rd l m f none (r.2.1 + 1) (lv + 1)).1], (rd l m f none (r.2.1 + 1) (lv + 1)).2.1, 0)
      else (zTy, (rd l m f none (r.2.1 + 1) (lv + 1)).2.1, (rd l m f none (r.2.1 + 1) (lv + 1)).2.2)
    else r
  else (zTy, r.2.1, r.2.2)
theorem lv_none (l : List Tok) (m : Int) (f : Nat) (i lv : Int) : rd l m (f + 1) none i lv = if m < lv then (zTy, i, 4) else rdT l m f lv (rdA l m f i lv) := rfl
theorem lv_some (l : List Tok) (m : Int) (f : Nat) (ps : List Ty) (i lv : Int) : rd l m (f + 1) (some ps) i lv =
    if isT l i 4 bClose then (tupP ps, i + 1, 0)
    else if isT l i 4 bStar then
      if 8 ≤ ps.length then (zTy, i, 6) else
      if (rd l m f none (i + 1) lv).2.2 = 0 then rd l m f (some (ps ++ [(rd l m f none (i + 1) lv).1])) (rd l m f none (i + 1) lv).2.1 lv else (zTy, (rd l m f none (i + 1) lv).2.1, (rd l m f none (i + 1) lv).2.2)
    else (zTy, i, 3) := rfl
theorem z4 {e : Int} (h : e = 0) : ¬ e = 4 := by omega
theorem n4 {e : Int} (h : e = 4) : ¬ e = 0 := by omega
section
variable {l : List Tok} {m m' : Int} (hm : m ≤ m')
include hm
theorem rd_same : ∀ (f : Nat) (o : Option (List Ty)) (i lv : Int), ¬ (rd l m f o i lv).2.2 = 4 → rd l m' f o i lv = rd l m f o i lv
  | 0, _, _, _, _ => rfl
  | f + 1, none, i, lv, h => by
    have ih := rd_same f
    rw [lv_none] at h ⊢
    rw [lv_none]
    by_cases hl : m < lv
    · rw [if_pos hl] at h
      exact absurd rfl h
    · rw [if_neg hl] at h ⊢
      rw [if_neg (by omega)]
      have h1 : ¬ (rdA l m f i lv).2.2 = 4 := fun g => h (by unfold rdT; rw [if_neg (n4 g)]; exact g)
      have hA : rdA l m' f i lv = rdA l m f i lv := by
        unfold rdA at h1 ⊢
        split
        · rfl
        · rename_i c1
          rw [if_neg c1] at h1
          split
          · rfl
          · rename_i c2
            rw [if_neg c2] at h1
            split
            · rename_i c3
              rw [if_pos c3] at h1
              by_cases hp : (rd l m f none (i + 1) (lv + 1)).2.2 = 0
              · rw [if_pos hp] at h1 ⊢
                rw [ih _ _ _ (z4 hp), if_pos hp, ih _ _ _ h1]
              · rw [if_neg hp] at h1 ⊢
                rw [ih _ _ _ h1, if_neg hp]
            · rfl
      rw [hA]
      unfold rdT at h ⊢
      split
      · rename_i c1
        rw [if_pos c1] at h
        split
        · rename_i c2
          rw [if_pos c2] at h
          by_cases hp : (rd l m f none ((rdA l m f i lv).2.1 + 1) (lv + 1)).2.2 = 0
          · rw [if_pos hp, ih _ _ _ (z4 hp), if_pos hp]
          · rw [if_neg hp] at h ⊢
            rw [ih _ _ _ h, if_neg hp]
        · rfl
      · rfl
  | f + 1, some ps, i, lv, h => by
    have ih := rd_same f
    rw [lv_some] at h ⊢
    rw [lv_some]
    split
    · rfl
    · rename_i c1
      rw [if_neg c1] at h
      split
      · rename_i c2
        rw [if_pos c2] at h
        split
        · rfl
        · rename_i c3
          rw [if_neg c3] at h
          by_cases hp : (rd l m f none (i + 1) lv).2.2 = 0
          · rw [if_pos hp] at h ⊢
            rw [ih _ _ _ (z4 hp), if_pos hp, ih _ _ _ h]
          · rw [if_neg hp] at h ⊢
            rw [ih _ _ _ h, if_neg hp]
      · rfl
variable {E E' : Nat → Int → Rdx}
theorem anR_same {i0 : Nat} {n : Int} {t : Tm} {j : Nat} (h : ¬ (anR l m i0 n t j).e = 4) : anR l m' i0 n t j = anR l m i0 n t j := by
  have h9 : ¬ (rdF l m (j + 1) (n + 2)).2.2 = 4 := fun g => h (by unfold anR; rw [if_neg (n4 g)]; exact g)
  have h8 : rdF l m' (j + 1) (n + 2) = rdF l m (j + 1) (n + 2) := rd_same hm _ _ _ _ h9
  unfold anR
  rw [h8]
variable (hE : ∀ (i : Nat) (n : Int), ¬ (E i n).e = 4 → E' i n = E i n)
include hE
omit hm in
theorem tpR_same {i0 : Nat} {n : Int} : ∀ (f : Nat) (ps : List Tm) (i : Nat), ¬ (tpR E l i0 n f ps i).e = 4 → tpR E' l i0 n f ps i = tpR E l i0 n f ps i
  | 0, _, _, _ => rfl
  | f + 1, ps, i, h => by
    have ih := tpR_same (i0 := i0) (n := n) f
    unfold tpR at h ⊢
    by_cases c1 : isT l i 4 bCom = true
    · rw [if_pos c1] at h ⊢
      rw [if_pos c1]
      by_cases c2 : 8 ≤ ps.length
      · rw [if_pos c2, if_pos c2]
      · rw [if_neg c2] at h ⊢
        rw [if_neg c2]
        by_cases hp : (E (i + 1) (n + 1)).e = 0
        · rw [if_pos hp] at h ⊢
          rw [hE _ _ (z4 hp), if_pos hp, ih _ _ h]
        · rw [if_neg hp] at h ⊢
          rw [hE _ _ h, if_neg hp]
    · rw [if_neg c1, if_neg c1]
theorem brR_same {i : Nat} {n : Int} (h : ¬ (brR E l m i n).e = 4) : brR E' l m' i n = brR E l m i n := by
  unfold brR at h ⊢
  by_cases hp : (E (i + 1) (n + 1)).e = 0
  · rw [if_pos hp] at h ⊢
    rw [hE _ _ (z4 hp), if_pos hp]
    by_cases c1 : isT l (E (i + 1) (n + 1)).i 4 bCol = true
    · rw [if_pos c1] at h ⊢
      rw [if_pos c1, anR_same hm h]
    · rw [if_neg c1] at h ⊢
      rw [if_neg c1, tpR_same hE _ _ _ h]
  · rw [if_neg hp] at h ⊢
    rw [hE _ _ h, if_neg hp]
theorem atR_same {i : Nat} {n : Int} (h : ¬ (atR E l m i n).e = 4) : atR E' l m' i n = atR E l m i n := by
  unfold atR at h ⊢
  split
  · rename_i c1
    rw [if_pos c1] at h
    split
    · rfl
    · rename_i c2
      rw [if_neg c2] at h
      split
      · rfl
      · rename_i c3
        rw [if_neg c3] at h
        split
        · rfl
        · rename_i c4
          rw [if_neg c4] at h
          split
          · rename_i c5
            rw [if_pos c5] at h
            exact brR_same hm hE h
          · rfl
  · rfl
theorem apR_same {n : Int} : ∀ (f : Nat) (r : Rdx), ¬ (apR E l m n f r).e = 4 → apR E' l m' n f r = apR E l m n f r
  | 0, _, _ => rfl
  | f + 1, r, h => by
    have ih := apR_same (n := n) f
    unfold apR at h ⊢
    by_cases c1 : r.e = 0 ∧ beg l r.i = true
    · rw [if_pos c1] at h ⊢
      rw [if_pos c1]
      by_cases hp : (atR E l m r.i n).e = 0
      · rw [if_pos hp] at h ⊢
        rw [atR_same hm hE (z4 hp), if_pos hp, ih _ h]
      · rw [if_neg hp] at h ⊢
        rw [atR_same hm hE h, if_neg hp]
    · rw [if_neg c1, if_neg c1]
omit hm in
theorem funR_same {i : Nat} {n : Int} (h : ¬ (funR E l i n).e = 4) : funR E' l i n = funR E l i n := by
  unfold funR wtR at h ⊢
  by_cases c1 : kdT l (i + 1) 1 = true
  · rw [if_pos c1] at h ⊢
    rw [if_pos c1]
    by_cases c2 : isT l ((i + 2 : Nat) : Int) 4 bArr = true
    · rw [if_pos c2] at h ⊢
      rw [if_pos c2]
      by_cases hp : (E (i + 3) (n + 1)).e = 0
      · rw [if_pos hp, hE _ _ (z4 hp), if_pos hp]
      · rw [if_neg hp] at h ⊢
        rw [hE _ _ h, if_neg hp]
    · rw [if_neg c2, if_neg c2]
  · rw [if_neg c1, if_neg c1]
omit hm in
theorem letR_same {k : Int} {i0 j : Nat} {n : Int} (h : ¬ (letR E l k i0 j n).e = 4) : letR E' l k i0 j n = letR E l k i0 j n := by
  unfold letR wtR at h ⊢
  by_cases c1 : kdT l j 1 = true
  · rw [if_pos c1] at h ⊢
    rw [if_pos c1]
    by_cases c2 : isT l ((j + 1 : Nat) : Int) 4 bEq = true
    · rw [if_pos c2] at h ⊢
      rw [if_pos c2]
      by_cases hp : (E (j + 2) (n + 1)).e = 0
      · rw [if_pos hp] at h ⊢
        rw [hE _ _ (z4 hp), if_pos hp]
        by_cases c3 : isT l (E (j + 2) (n + 1)).i 3 bIn = true
        · rw [if_pos c3] at h ⊢
          rw [if_pos c3]
          by_cases hq : (E ((E (j + 2) (n + 1)).i + 1) (n + 1)).e = 0
          · rw [if_pos hq, hE _ _ (z4 hq), if_pos hq]
          · rw [if_neg hq] at h ⊢
            rw [hE _ _ h, if_neg hq]
        · rw [if_neg c3, if_neg c3]
      · rw [if_neg hp] at h ⊢
        rw [hE _ _ h, if_neg hp]
    · rw [if_neg c2, if_neg c2]
  · rw [if_neg c1, if_neg c1]
omit hm in
theorem ifR_same {i : Nat} {n : Int} (h : ¬ (ifR E l i n).e = 4) : ifR E' l i n = ifR E l i n := by
  unfold ifR wtR at h ⊢
  by_cases hp : (E (i + 1) (n + 1)).e = 0
  · rw [if_pos hp] at h ⊢
    rw [hE _ _ (z4 hp), if_pos hp]
    by_cases c3 : isT l (E (i + 1) (n + 1)).i 3 bThen = true
    · rw [if_pos c3] at h ⊢
      rw [if_pos c3]
      by_cases hq : (E ((E (i + 1) (n + 1)).i + 1) (n + 1)).e = 0
      · rw [if_pos hq] at h ⊢
        rw [hE _ _ (z4 hq), if_pos hq]
        by_cases c4 : isT l (E ((E (i + 1) (n + 1)).i + 1) (n + 1)).i 3 bElse = true
        · rw [if_pos c4] at h ⊢
          rw [if_pos c4]
          by_cases hr : (E ((E ((E (i + 1) (n + 1)).i + 1) (n + 1)).i + 1) (n + 1)).e = 0
          · rw [if_pos hr, hE _ _ (z4 hr), if_pos hr]
          · rw [if_neg hr] at h ⊢
            rw [hE _ _ h, if_neg hr]
        · rw [if_neg c4, if_neg c4]
      · rw [if_neg hq] at h ⊢
        rw [hE _ _ h, if_neg hq]
    · rw [if_neg c3, if_neg c3]
  · rw [if_neg hp] at h ⊢
    rw [hE _ _ h, if_neg hp]
theorem exR_same {i : Nat} {n : Int} (h : ¬ (exR E l m i n).e = 4) : exR E' l m' i n = exR E l m i n := by
  unfold exR at h ⊢
  by_cases c0 : m < n
  · rw [if_pos c0] at h
    exact absurd rfl h
  · rw [if_neg c0] at h ⊢
    rw [if_neg (by omega)]
    split
    · rename_i c1
      rw [if_pos c1] at h
      exact funR_same hE h
    · rename_i c1
      rw [if_neg c1] at h
      split
      · rename_i c2
        rw [if_pos c2] at h
        split
        · rename_i c3
          rw [if_pos c3] at h
          exact letR_same hE h
        · rename_i c3
          rw [if_neg c3] at h
          exact letR_same hE h
      · rename_i c2
        rw [if_neg c2] at h
        split
        · rename_i c3
          rw [if_pos c3] at h
          exact ifR_same hE h
        · rename_i c3
          rw [if_neg c3] at h
          by_cases hp : (atR E l m i n).e = 0
          · rw [if_pos hp] at h ⊢
            rw [atR_same hm hE (z4 hp), if_pos hp, apR_same hm hE _ _ h]
          · rw [if_neg hp] at h ⊢
            rw [atR_same hm hE h, if_neg hp]
end
theorem rx_same {l : List Tok} {m m' : Int} (hm : m ≤ m') : ∀ (f i : Nat) (n : Int), ¬ (rx l m f i n).e = 4 → rx l m' f i n = rx l m f i n
  | 0, _, _, _ => rfl
  | f + 1, i, n, h => exR_same hm (E := rx l m f) (E' := rx l m' f) (fun j k hj => rx_same hm f j k hj) h
theorem rxW_same {l : List Tok} {m m' : Int} (hm : m ≤ m') (h : ¬ (rxW l m).2.2 = 4) : rxW l m' = rxW l m := by
  have h9 : ¬ (rx l m (l.length + 1) 0 1).e = 4 := fun g => h (by unfold rxW; rw [if_neg (n4 g)]; exact g)
  unfold rxW
  rw [rx_same hm _ _ _ h9]
theorem rd_deep {l : List Tok} {m : Int} : ∀ (f : Nat) (o : Option (List Ty)) (i lv : Int), 0 ≤ i → i ≤ l.length → lv + (l.length - i) ≤ m → ¬ (rd l m f o i lv).2.2 = 4
  | 0, _, _, _, _, _, _ => by simp [rd]
  | f + 1, none, i, lv, h0, h1, h2 => by
    have ih := rd_deep (l := l) (m := m) f
    rw [lv_none, if_neg (by omega)]
    have hA : ¬ (rdA l m f i lv).2.2 = 4 ∧ ((rdA l m f i lv).2.2 = 0 → i < (rdA l m f i lv).2.1) := by
      unfold rdA
      split
      · exact ⟨show ¬ (0 : Int) = 4 by decide, fun _ => by show i < i + 1; omega⟩
      · split
        · exact ⟨show ¬ (0 : Int) = 4 by decide, fun _ => by show i < i + 1; omega⟩
        · split
          · rename_i c3
            have h3 := isT_lt c3
            have h4 := rd_mono l m f none (i + 1) (lv + 1)
            have h5 := rd_le l m f none (i + 1) (lv + 1)
            split
            · have h6 := rd_mono l m f (some [(rd l m f none (i + 1) (lv + 1)).1]) (rd l m f none (i + 1) (lv + 1)).2.1 (lv + 1)
              refine ⟨ih _ _ _ (by omega) (by omega) (by omega), fun _ => by omega⟩
            · exact ⟨ih _ _ _ (by omega) (by omega) (by omega), fun h => absurd h ‹_›⟩
          · exact ⟨show ¬ (3 : Int) = 4 by decide, fun h => absurd (show (3 : Int) = 0 from h) (by decide)⟩
    generalize rdA l m f i lv = r at hA ⊢
    unfold rdT
    split
    · split
      · rename_i c1 c2
        have h3 := isT_lt c2
        have h4 := hA.2 c1
        split
        · show ¬ (0 : Int) = 4
          decide
        · exact ih _ _ _ (by omega) (by omega) (by omega)
      · exact hA.1
    · exact hA.1
  | f + 1, some ps, i, lv, h0, h1, h2 => by
    have ih := rd_deep (l := l) (m := m) f
    rw [lv_some]
    split
    · show ¬ (0 : Int) = 4
      decide
    · split
      · rename_i c2
        have h3 := isT_lt c2
        have h4 := rd_mono l m f none (i + 1) lv
        have h5 := rd_le l m f none (i + 1) lv
        split
        · show ¬ (6 : Int) = 4
          decide
        · split
          · exact ih _ _ _ (by omega) (by omega) (by omega)
          · exact ih _ _ _ (by omega) (by omega) (by omega)
      · show ¬ (3 : Int) = 4
        decide
section
variable {E : Nat → Int → Rdx} {l : List Tok} {m : Int}
def EDp (E : Nat → Int → Rdx) (l : List Tok) (m : Int) : Prop := ∀ (i : Nat) (n : Int), i ≤ l.length → n + (l.length - i : Nat) ≤ m → ¬ (E i n).e = 4
theorem wr_deep {i : Nat} {e : Int} (h : ¬ e = 4) : ¬ (wr i e).e = 4 := h
theorem wtR_deep {i : Nat} {k : Int} {s : ByteArray} {K : Rdx} (h : isT l (i : Int) k s = true → ¬ K.e = 4) : ¬ (wtR l i k s K).e = 4 := by
  unfold wtR
  split
  · exact h ‹_›
  · exact wr_deep (by decide)
theorem anR_deep {i0 : Nat} {n : Int} {t : Tm} {j : Nat} (hj : j < l.length) (h : n + 2 + (l.length - (j + 1) : Nat) ≤ m) : ¬ (anR l m i0 n t j).e = 4 := by
  have h1 := rd_deep (l := l) (m := m) (l.length + 1) none ((j : Int) + 1) (n + 2) (by omega) (by omega) (by omega)
  unfold anR
  split
  · split
    · show ¬ (0 : Int) = 4
      decide
    · exact wr_deep (by decide)
  · exact h1
variable (hE : EDp E l m) (hK : EOk E l)
include hE hK
theorem tpR_deep {i0 : Nat} {n : Int} : ∀ (f : Nat) (ps : List Tm) (i : Nat), i ≤ l.length → n + (l.length - i : Nat) ≤ m → ¬ (tpR E l i0 n f ps i).e = 4
  | 0, _, _, _, _ => wr_deep (by decide)
  | f + 1, ps, i, h1, h2 => by
    unfold tpR
    split
    · have h3 := isT_ltN ‹isT l (i : Int) 4 bCom = true›
      have h4 := hK (i + 1) (n + 1) (by omega)
      split
      · exact wr_deep (by decide)
      · split
        · have h5 := h4.1
          exact tpR_deep f _ _ h4.2.1 (by omega)
        · exact hE _ _ (by omega) (by omega)
    · split
      · split
        · show ¬ (0 : Int) = 4
          decide
        · show ¬ (0 : Int) = 4
          decide
      · exact wr_deep (by decide)
theorem brR_deep {i : Nat} {n : Int} (hi : i < l.length) (h : n + (l.length - i : Nat) ≤ m) : ¬ (brR E l m i n).e = 4 := by
  unfold brR
  have h4 := hK (i + 1) (n + 1) (by omega)
  split
  · rename_i c0
    have h6 := h4.2.2 c0
    split
    · have h5 := isT_ltN ‹isT l ((E (i + 1) (n + 1)).i : Int) 4 bCol = true›
      exact anR_deep h5 (by omega)
    · exact tpR_deep hE hK _ _ _ h4.2.1 (by omega)
  · exact hE _ _ (by omega) (by omega)
theorem atR_deep {i : Nat} {n : Int} (hi : i ≤ l.length) (h : n + (l.length - i : Nat) ≤ m) : ¬ (atR E l m i n).e = 4 := by
  unfold atR
  split
  · have h1 := beg_lt ‹beg l i = true›
    split
    · show ¬ (0 : Int) = 4
      decide
    · split
      · show ¬ (0 : Int) = 4
        decide
      · split
        · show ¬ (0 : Int) = 4
          decide
        · split
          · exact brR_deep hE hK h1 h
          · show ¬ (0 : Int) = 4
            decide
  · exact wr_deep (by decide)
theorem apR_deep {n : Int} : ∀ (f : Nat) (r : Rdx), r.i ≤ l.length → n + (l.length - r.i : Nat) ≤ m → ¬ r.e = 4 → ¬ (apR E l m n f r).e = 4
  | 0, _, _, _, h => h
  | f + 1, r, h1, h2, h3 => by
    unfold apR
    have h4 := atR_ok (m := m) hK r.i n h1
    split
    · split
      · have h5 := h4.1
        exact apR_deep f _ h4.2.1 (by show n + (l.length - (atR E l m r.i n).i : Nat) ≤ m; omega) (by show ¬ (0 : Int) = 4; decide)
      · exact atR_deep hE hK h1 h2
    · exact h3
omit hK in
theorem funR_deep {i : Nat} {n : Int} (hi : i < l.length) (h : n + (l.length - i : Nat) ≤ m) : ¬ (funR E l i n).e = 4 := by
  unfold funR
  split
  · refine wtR_deep fun h1 => ?_
    have h2 := isT_ltN h1
    split
    · show ¬ (0 : Int) = 4
      decide
    · exact hE _ _ (by omega) (by omega)
  · exact wr_deep (by decide)
theorem letR_deep {k : Int} {i0 j : Nat} {n : Int} (hj : j ≤ l.length) (h : n + (l.length - j : Nat) ≤ m) : ¬ (letR E l k i0 j n).e = 4 := by
  unfold letR
  split
  · refine wtR_deep fun h1 => ?_
    have h2 := isT_ltN h1
    have h3 := hK (j + 2) (n + 1) (by omega)
    split
    · refine wtR_deep fun h4 => ?_
      have h5 := isT_ltN h4
      have h6 := h3.1
      split
      · show ¬ (0 : Int) = 4
        decide
      · exact hE _ _ (by omega) (by omega)
    · exact hE _ _ (by omega) (by omega)
  · exact wr_deep (by decide)
theorem ifR_deep {i : Nat} {n : Int} (hi : i < l.length) (h : n + (l.length - i : Nat) ≤ m) : ¬ (ifR E l i n).e = 4 := by
  unfold ifR
  have h3 := hK (i + 1) (n + 1) (by omega)
  have h6 := h3.1
  split
  · refine wtR_deep fun h4 => ?_
    have h5 := isT_ltN h4
    have h7 := hK ((E (i + 1) (n + 1)).i + 1) (n + 1) (by omega)
    have h8 := h7.1
    split
    · refine wtR_deep fun h9 => ?_
      have h10 := isT_ltN h9
      split
      · show ¬ (0 : Int) = 4
        decide
      · exact hE _ _ (by omega) (by omega)
    · exact hE _ _ (by omega) (by omega)
  · exact hE _ _ (by omega) (by omega)
theorem exR_deep {i : Nat} {n : Int} (hi : i ≤ l.length) (h : n + (l.length - i : Nat) ≤ m) : ¬ (exR E l m i n).e = 4 := by
  unfold exR
  rw [if_neg (by omega)]
  split
  · exact funR_deep hE (isT_ltN ‹_›) h
  · split
    · have h1 := isT_ltN ‹isT l (i : Int) 3 bLet = true›
      split
      · have h2 := isT_ltN ‹isT l ((i + 1 : Nat) : Int) 3 bRec = true›
        exact letR_deep hE hK (by omega) (by omega)
      · exact letR_deep hE hK (by omega) (by omega)
    · split
      · exact ifR_deep hE hK (isT_ltN ‹_›) h
      · have h4 := atR_ok (m := m) hK i n hi
        split
        · have h5 := h4.1
          exact apR_deep hE hK _ _ h4.2.1 (by omega) (z4 ‹_›)
        · exact atR_deep hE hK hi h
end
theorem rx_deep {l : List Tok} {m : Int} : ∀ (f i : Nat) (n : Int), i ≤ l.length → n + (l.length - i : Nat) ≤ m → ¬ (rx l m f i n).e = 4
  | 0, _, _, _, _ => wr_deep (by decide)
  | f + 1, i, n, h1, h2 => exR_deep (E := rx l m f) (fun j k hj hk => rx_deep f j k hj hk) (fun j k hj => rx_ok l m f j k hj) h1 h2
theorem rxW_deep {l : List Tok} {m : Int} (h : 1 + (l.length : Int) ≤ m) : ¬ (rxW l m).2.2 = 4 := by
  have h9 := rx_deep (l := l) (m := m) (l.length + 1) 0 1 (Nat.zero_le _) (by omega)
  unfold rxW
  split
  · split
    · show ¬ (0 : Int) = 4
      decide
    · show ¬ (3 : Int) = 4
      decide
  · exact h9
theorem rxW_all {l : List Tok} {m : Int} (h : 1 + (l.length : Int) ≤ m) (m' : Int) (h' : m ≤ m') : rxW l m' = rxW l m := rxW_same h' (rxW_deep h)
theorem rxW_lv0 (l : List Tok) {m : Int} (h : m < 1) : (rxW l m).2.2 = 4 := by
  have h1 : rx l m (l.length + 1) 0 1 = wr 0 4 := by
    show exR (rx l m l.length) l m 0 1 = wr 0 4
    unfold exR
    rw [if_pos h]
  unfold rxW
  rw [h1]
  rfl
theorem rxW_less {l : List Tok} {m m' : Int} (hm : m ≤ m') (h : (rxW l m').2.2 = 0) (h2 : ¬ (rxW l m).2.2 = 0) : (rxW l m).2.2 = 4 := by
  by_cases h3 : (rxW l m).2.2 = 4
  · exact h3
  · rw [rxW_same hm h3] at h
    exact absurd h h2
end Go.Proofs.YtkokfdmggdhfmaaDoor
namespace Go.Proofs.YtkokfdmggdhfmaaDoor
open Go Go.RowKit
set_option maxRecDepth 100000
set_option maxHeartbeats 4000000
set_option linter.unusedSimpArgs false
set_option linter.unnecessarySimpa false
set_option linter.unusedVariables false
attribute [local irreducible] aops dRun
def Tm.setSp (t : Tm) (x : Int × Int) : Tm := .mk t.k t.s t.n t.t t.ps x.1 x.2
def EXC (l : List Tok) (m : Int) (r : Rdx) : AV → Os → Prop := fun v os => ∃ p : Pt, (r.e = 0 → p = (r.t, r.a, r.b)) ∧ v = .agg (partC p) ∧ os = enumO 0 [.cells 78 (qC l r.i m r.e)]
theorem form_q (l : List Tok) (m : Int) (i g : Nat) (n : Int) (r : Rdx) (hl : l.length ≤ 1048576) (hi : i < l.length) (h3 : -1000000 ≤ n) (h4 : n ≤ 1000000) (h : QFo g [.ptr 0 0, .v (.int .i64 (n + 1))] l m (i + 1) i r) : QEx 78 [.ptr 0 0, .v (.int .i64 n), .mth g [.ptr 0 0]] l m (i + 1) (0) (r) := by
  obtain ⟨t, ht⟩ : ∃ t, l[i]? = some t := ⟨_, List.getElem?_eq_getElem hi⟩
  have htk := tk_at ht
  have hw : IntKind.i64.wrap (((i + 1 : Nat) : Int) - 1) = (i : Int) := by (rw [wrap_in (by omega) (by omega)]; omega)
  have hw2 : IntKind.i64.wrap (n + 1) = n + 1 := by (rw [wrap_in (by omega) (by omega)])
  have hsp : sp l i = (t.a, t.b) := by rw [sp, htk]
  refine ACalls.clean (C := EXC l m (r)) ?_
  refine ACalls_intro Tryd.func78 (by kernel_rfl) rfl (by rw [Tryd.ntmps78]; simp) (fun hm => ?_)
  simp only [Tryd.ntmps78, Tryd.results78, List.length_cons, List.length_nil, Nat.reduceAdd, Nat.reduceSub, List.replicate_succ, List.replicate_zero, List.cons_append, List.nil_append]
  refine AWp_seqK fun Y0 y0 => ?_
  refine AWp_region ?_
  simp only [↓bO, go_sem, seval, Tok.cells, qC, partC, List.take, List.drop, enumO, hw, hw2, hi, gM ht]
  refine y0 _ ?_
  try clear y0 Y0
  refine AWp_seqK fun Y0 y0 => ?_
  refine AWp_drawK 15 mixed (by kernel_rfl) fun J0 j0 => ?_
  iterate 14 (simp only [go_sem]; refine dRun_chunk 1 fun Q0 q0 => ?_; simp only [↓dRun, ↓dOp, ↓bO, go_sem, seval, Tok.cells, qC, partC, List.take, List.drop, enumO, hw, hw2, hi, gM ht]; refine q0 _ ?_; clear q0 Q0)
  simp only [go_sem]
  simp only [↓dRun, ↓dOp, ↓bO, go_sem, seval, Tok.cells, qC, partC, List.take, List.drop, enumO, hw, hw2, hi, gM ht]
  refine j0 _ ?_
  clear j0 J0
  simp only [go_sem]
  simp only [↓bO, go_sem, seval, Tok.cells, qC, partC, List.take, List.drop, enumO, hw, hw2, hi, gM ht]
  refine y0 _ ?_
  try clear y0 Y0
  refine AWp_seqK fun Y0 y0 => ?_
  refine AWp_region ?_
  iterate 3 (refine aops_chunk 1 fun Q0 q0 => ?_; simp only [↓bO, go_sem, seval, Tok.cells, qC, partC, List.take, List.drop, enumO, hw, hw2, hi, gM ht]; refine q0 _ ?_; clear q0 Q0; simp only [go_sem])
  refine aops_chunk 1 fun Q0 q0 => ?_
  simp only [↓bO, go_sem, seval, Tok.cells, qC, partC, List.take, List.drop, enumO, hw, hw2, hi, gM ht]
  refine QFo.at (k := 0) h ?_ rfl (by first | omega | (simp only; omega)) ?_
  · exact ⟨.ptr rfl, .v _, trivial⟩
  intro p hp
  simp only [Tm.cells_eq p.1, partC, putO, Nat.reduceEqDiff, ↓reduceIte]
  try simp only [bS, bA, thenQ, blockQ, noGotoQ]
  iterate 6 (refine q0 _ ?_; clear q0 Q0; simp only [go_sem]; refine aops_chunk 1 fun Q0 q0 => ?_; simp only [↓bO, go_sem, seval, Tok.cells, qC, partC, List.take, List.drop, enumO, hw, hw2, hi, gM ht])
  refine q0 _ ?_
  clear q0 Q0
  simp only [go_sem]
  simp only [↓bO, go_sem, seval, Tok.cells, qC, partC, List.take, List.drop, enumO, hw, hw2, hi, gM ht]
  refine y0 _ ?_
  try clear y0 Y0
  refine AWp_seqK fun Y0 y0 => ?_
  refine AWp_region ?_
  iterate 3 (refine aops_chunk 1 fun Q0 q0 => ?_; simp only [↓bO, go_sem, seval, Tok.cells, qC, partC, List.take, List.drop, enumO, hw, hw2, hi, gM ht]; refine q0 _ ?_; clear q0 Q0; simp only [go_sem])
  refine aops_chunk 1 fun Q0 q0 => ?_
  simp only [↓bO, go_sem, seval, Tok.cells, qC, partC, List.take, List.drop, enumO, hw, hw2, hi, gM ht]
  refine APure.call (SpJoin_pure (t.a, t.b) (p.2.2.1, p.2.2.2)) ?_
  try simp only [bS, bA, thenQ, blockQ, noGotoQ]
  refine q0 _ ?_
  clear q0 Q0
  simp only [go_sem]
  refine aops_chunk 1 fun Q0 q0 => ?_
  simp only [↓bO, go_sem, seval, Tok.cells, qC, partC, List.take, List.drop, enumO, hw, hw2, hi, gM ht]
  refine q0 _ ?_
  clear q0 Q0
  simp only [go_sem]
  simp only [↓bO, go_sem, seval, Tok.cells, qC, partC, List.take, List.drop, enumO, hw, hw2, hi, gM ht]
  refine y0 _ ?_
  try clear y0 Y0
  refine AWp_seqK fun Y0 y0 => ?_
  refine AWp_region ?_
  iterate 4 (refine aops_chunk 1 fun Q0 q0 => ?_; simp only [↓bO, go_sem, seval, Tok.cells, qC, partC, List.take, List.drop, enumO, hw, hw2, hi, gM ht]; refine q0 _ ?_; clear q0 Q0; simp only [go_sem])
  simp only [↓bO, go_sem, seval, Tok.cells, qC, partC, List.take, List.drop, enumO, hw, hw2, hi, gM ht]
  refine y0 _ ?_
  try clear y0 Y0
  refine AWp_ret ?_
  try simp only [thenQ, blockQ, noGotoQ, retQ, aRes, tupOf, bS, bA, aLoad, getO, pack, bL, Nat.reduceAdd, Nat.reduceLeDiff, Nat.reduceEqDiff, ↓reduceIte, ti102, tyX, Tok.cells, List.length_map, qC, partC, List.take, List.drop, enumO, hw, hw2, hi, gM ht]
  rw [← hsp]
  refine ⟨_, _, ⟨(p.1.setSp (spJ (sp l i) (p.2.2.1, p.2.2.2)), (spJ (sp l i) (p.2.2.1, p.2.2.2))), ?_, rfl, rfl⟩, .data (.agg (partC_data _)), qUnd (by omega) _ _ _ _, ?_, ?_, by omega⟩
  ·
   intro he
   obtain ⟨k, s, ps, j, h1, h2⟩ := hp he
   rw [h1, h2]
   rfl
  · exact Le.refl _
  · first | exact ⟨0, rfl, rfl⟩ | exact ⟨1, rfl, rfl⟩ | exact ⟨2, rfl, rfl⟩ | exact ⟨3, rfl, rfl⟩ | exact ⟨4, rfl, rfl⟩ | exact ⟨5, rfl, rfl⟩ | exact ⟨6, rfl, rfl⟩ | exact ⟨7, rfl, rfl⟩ | exact ⟨8, rfl, rfl⟩ | exact ⟨9, rfl, rfl⟩
def apS (r Y : Rdx) : Rdx := if Y.e = 0 then ⟨tm 5 ByteArray.empty 0 [r.t, Y.t] (spJ (r.a, r.b) (Y.a, Y.b)), (spJ (r.a, r.b) (Y.a, Y.b)).1, (spJ (r.a, r.b) (Y.a, Y.b)).2, Y.i, 0⟩ else Y
def apP (p q : Pt) : Pt := (tm 5 ByteArray.empty 0 [p.1, q.1] (spJ p.2 q.2), spJ p.2 q.2)
theorem apS_i (r Y : Rdx) : (apS r Y).i = Y.i := by unfold apS; split <;> rfl
theorem apS_e (r Y : Rdx) : (apS r Y).e = Y.e := by
  unfold apS
  split
  · exact (‹Y.e = 0› : Y.e = 0).symm
  · rfl
def ApI (E : Nat → Int → Rdx) (l : List Tok) (m n : Int) (r : Rdx) (i0 : Nat) (s : Rdx × Pt) : Prop := s.1.ok l i0 ∧ (s.1.e = 0 → s.2 = (s.1.t, s.1.a, s.1.b)) ∧ ∃ F, (s.1.e = 0 → l.length - s.1.i < F) ∧ r = apR E l m n F s.1
theorem ApI.stop {E : Nat → Int → Rdx} {l : List Tok} {m n : Int} {r : Rdx} {i0 : Nat} {s : Rdx × Pt} (h : ApI E l m n r i0 s) (hst : ¬ (s.1.e = 0 ∧ beg l s.1.i = true)) : r = s.1 := by
  obtain ⟨_, _, F, _, h4⟩ := h
  rw [h4]
  cases F with
  | zero => rfl
  | succ F => unfold apR; rw [if_neg hst]
theorem ApI.next {E : Nat → Int → Rdx} {l : List Tok} {m n : Int} {r : Rdx} {i0 : Nat} {s : Rdx × Pt} (h : ApI E l m n r i0 s) (hE : EOk E l) (he : s.1.e = 0) (hb : beg l s.1.i = true) {q : Pt} (hq : (atR E l m s.1.i n).e = 0 → q = ((atR E l m s.1.i n).t, (atR E l m s.1.i n).a, (atR E l m s.1.i n).b)) :
    ApI E l m n r i0 (apS s.1 (atR E l m s.1.i n), apP s.2 q) := by
  obtain ⟨h1, h2, F, h3, h4⟩ := h
  have h9 := atR_ok (m := m) hE s.1.i n h1.2.1
  have hf := h3 he
  obtain ⟨G, rfl⟩ : ∃ G, F = G + 1 := ⟨F - 1, by omega⟩
  refine ⟨⟨?_, ?_, fun h5 => ?_⟩, fun h5 => ?_, G, fun h5 => ?_, ?_⟩
  · rw [apS_i]
    exact Nat.le_trans h1.1 h9.1
  · rw [apS_i]
    exact h9.2.1
  · rw [apS_i]
    rw [apS_e] at h5
    exact Nat.lt_of_le_of_lt h1.1 (h9.2.2 h5)
  · rw [apS_e] at h5
    rw [h2 he, hq h5]
    unfold apS apP
    rw [if_pos h5]
  · rw [apS_e] at h5
    rw [apS_i]
    have := h9.2.2 h5
    have := h9.2.1
    omega
  · rw [h4]
    conv => lhs; unfold apR
    rw [if_pos ⟨he, hb⟩]
    by_cases hY : (atR E l m s.1.i n).e = 0
    · rw [if_pos hY]
      unfold apS
      rw [if_pos hY]
    · rw [if_neg hY]
      unfold apS
      rw [if_neg hY, apR_bad G hY]
theorem ApI.meas {E : Nat → Int → Rdx} {l : List Tok} {m n : Int} {r : Rdx} {i0 : Nat} {s : Rdx × Pt} (h : ApI E l m n r i0 s) (hE : EOk E l) (he : s.1.e = 0) : (if (apS s.1 (atR E l m s.1.i n)).e = 0 then l.length - (apS s.1 (atR E l m s.1.i n)).i + 1 else 0) < (if s.1.e = 0 then l.length - s.1.i + 1 else 0) := by
  have h9 := atR_ok (m := m) hE s.1.i n h.1.2.1
  rw [if_pos he, apS_e, apS_i]
  split
  · have := h9.2.2 ‹_›
    have := h9.2.1
    omega
  · omega
theorem apP_cells (p q : Pt) : partC (apP p q) = [.v (.int .i64 5), .v (.string ByteArray.empty), .v (.int .i64 0), .v (.int .i64 0), .v (.int .i64 0), .sl 3 [], .sl 9 [[.v (.int .i64 p.1.k), .v (.string p.1.s), .v (.int .i64 p.1.n), .v (.int .i64 p.1.t.k), .v (.int .i64 p.1.t.n), .sl 3 (p.1.t.ps.map Ty.cells), .sl 9 (p.1.ps.map Tm.cells), .v (.int .i64 p.1.a), .v (.int .i64 p.1.b)], [.v (.int .i64 q.1.k), .v (.string q.1.s), .v (.int .i64 q.1.n), .v (.int .i64 q.1.t.k), .v (.int .i64 q.1.t.n), .sl 3 (q.1.t.ps.map Ty.cells), .sl 9 (q.1.ps.map Tm.cells), .v (.int .i64 q.1.a), .v (.int .i64 q.1.b)]], .v (.int .i64 (spJ p.2 q.2).1), .v (.int .i64 (spJ p.2 q.2).2), .v (.int .i64 (spJ p.2 q.2).1), .v (.int .i64 (spJ p.2 q.2).2)] := by
  rw [← p.1.cells_eq, ← q.1.cells_eq]
  rfl
def zPt : Pt := (zTm, 0, 0)
theorem zPt_le : Le (.agg [.v (.int .i64 0), .v (.string ByteArray.empty), .v (.int .i64 0), .v (.int .i64 0), .v (.int .i64 0), .v (.slice none 0 0), .v (.slice none 0 0), .v (.int .i64 0), .v (.int .i64 0), .v (.int .i64 0), .v (.int .i64 0)]) (.agg (partC zPt)) :=
  Le.agg ⟨.refl _, .refl _, .refl _, .refl _, .refl _, Le.slNil 3, Le.slNil 9, .refl _, .refl _, .refl _, .refl _, trivial⟩
def AtOk (l : List Tok) (m : Int) (f : Nat) : Prop := ∀ (i : Nat) (n : Int), beg l i = true → l.length - i ≤ f → -1000000 ≤ n → n + (l.length - i : Nat) ≤ 700000 → QEx 97 [.ptr 0 0, .v (.int .i64 n)] l m i 0 (atR (rx l m f) l m i n)
def apx (E : Nat → Int → Rdx) (l : List Tok) (m : Int) (i : Nat) (n : Int) : Rdx := if (atR E l m i n).e = 0 then apR E l m n (l.length + 1) (atR E l m i n) else atR E l m i n
theorem apx_start {E : Nat → Int → Rdx} {l : List Tok} (m : Int) {i : Nat} (n : Int) (hE : EOk E l) (hi : i ≤ l.length) {p : Pt} (hp : (atR E l m i n).e = 0 → p = ((atR E l m i n).t, (atR E l m i n).a, (atR E l m i n).b)) : ApI E l m n (apx E l m i n) i (atR E l m i n, p) := by
  have h9 := atR_ok (m := m) hE i n hi
  refine ⟨h9, hp, l.length + 1, fun _ => by omega, ?_⟩
  unfold apx
  by_cases h : (atR E l m i n).e = 0
  · rw [if_pos h]
  · rw [if_neg h, apR_bad _ h]
theorem app_q (l : List Tok) (m : Int) (f i : Nat) (n : Int) (hl : l.length ≤ 1048576) (hA : AtOk l m f) (hR : EOk (rx l m f) l) (hi : i ≤ l.length) (hf : l.length - i ≤ f) (h3 : -1000000 ≤ n) (h4 : n + (l.length - i : Nat) ≤ 700000) : QEx 82 [.ptr 0 0, .v (.int .i64 n)] l m (i) (0) (apx (rx l m f) l m i n) := by
  generalize hr : apx (rx l m f) l m i n = r
  refine ACalls.clean (C := EXC l m r) ?_
  refine ACalls_intro Tryd.func82 (by kernel_rfl) rfl (by rw [Tryd.ntmps82]; simp) (fun hm => ?_)
  simp only [Tryd.ntmps82, Tryd.results82, List.length_cons, List.length_nil, Nat.reduceAdd, Nat.reduceSub, List.replicate_succ, List.replicate_zero, List.cons_append, List.nil_append]
  refine AWp_seqK fun Y0 y0 => ?_
  refine AWp_region ?_
  simp only [↓bO, go_sem, seval, Tok.cells, qC, partC, List.take, List.drop, enumO]
  refine y0 _ ?_
  try clear y0 Y0
  refine AWp_seqK fun Y0 y0 => ?_
  refine AWp_seqK fun Y1 y1 => ?_
  refine AWp_region ?_
  refine aops_chunk 1 fun Q0 q0 => ?_
  simp only [↓bO, go_sem, seval, Tok.cells, qC, partC, List.take, List.drop, enumO]
  refine q0 _ ?_
  clear q0 Q0
  simp only [go_sem]
  refine aops_chunk 1 fun Q0 q0 => ?_
  simp only [↓bO, go_sem, seval, Tok.cells, qC, partC, List.take, List.drop, enumO]
  refine QCalls.at (k := 0) (ahead_q l m (i) 0 hl) ?_ (.v _) rfl (by first | omega | (simp only; omega)) ?_
  · exact ⟨.ptr rfl, trivial⟩
  simp only [putO, Nat.reduceEqDiff, ↓reduceIte]
  try simp only [bS, bA, thenQ, blockQ, noGotoQ]
  refine q0 _ ?_
  clear q0 Q0
  simp only [go_sem]
  simp only [↓bO, go_sem, seval, Tok.cells, qC, partC, List.take, List.drop, enumO]
  refine y1 _ ?_
  try clear y1 Y1
  refine AWp_cond rfl (fun hb10 => ?_) (fun hb10 => ?_)
  ·
   have hb : ¬ beg l i = true := by simpa using hb10
   have hr0 : r = wr i 3 := by (rw [← hr]; unfold apx atR; rw [if_neg hb]; rfl)
   subst hr0
   refine AWp_seqK fun Y1 y1 => ?_
   refine AWp_region ?_
   refine aops_chunk 1 fun Q0 q0 => ?_
   simp only [↓bO, go_sem, seval, Tok.cells, qC, partC, List.take, List.drop, enumO]
   refine q0 _ ?_
   clear q0 Q0
   simp only [go_sem]
   simp only [↓bO, go_sem, seval, Tok.cells, qC, partC, List.take, List.drop, enumO]
   refine QCalls.at (k := 0) (fail_q l m i 0 3) ?_ (.tup .nil) rfl (by first | omega | (simp only; omega)) ?_
   · exact ⟨.ptr rfl, .v _, trivial⟩
   simp only [putO, Nat.reduceEqDiff, ↓reduceIte]
   try simp only [bS, bA, thenQ, blockQ, noGotoQ]
   refine y1 _ ?_
   try clear y1 Y1
   refine AWp_seqK fun Y1 y1 => ?_
   refine AWp_region ?_
   refine aops_chunk 1 fun Q0 q0 => ?_
   simp only [↓bO, go_sem, seval, Tok.cells, qC, partC, List.take, List.drop, enumO]
   refine q0 _ ?_
   clear q0 Q0
   simp only [go_sem]
   simp only [↓bO, go_sem, seval, Tok.cells, qC, partC, List.take, List.drop, enumO]
   refine y1 _ ?_
   try clear y1 Y1
   refine AWp_ret ?_
   try simp only [thenQ, blockQ, noGotoQ, retQ, aRes, tupOf, bS, bA, aLoad, getO, pack, bL, Nat.reduceAdd, Nat.reduceLeDiff, Nat.reduceEqDiff, ↓reduceIte, ti102, tyX, Tok.cells, List.length_map, qC, partC, List.take, List.drop, enumO]
   refine ⟨_, _, ⟨zPt, ?_, rfl, rfl⟩, .data (.agg (partC_data _)), qUnd (by omega) _ _ _ _, ?_, ?_, by omega⟩
   · exact fun h => absurd (show (3 : Int) = 0 from h) (by decide)
   · exact zPt_le
   · first | exact ⟨0, rfl, rfl⟩ | exact ⟨1, rfl, rfl⟩ | exact ⟨2, rfl, rfl⟩ | exact ⟨3, rfl, rfl⟩ | exact ⟨4, rfl, rfl⟩ | exact ⟨5, rfl, rfl⟩ | exact ⟨6, rfl, rfl⟩ | exact ⟨7, rfl, rfl⟩ | exact ⟨8, rfl, rfl⟩ | exact ⟨9, rfl, rfl⟩
  ·
   have hb : beg l i = true := by simpa using hb10
   refine AWp_skip ?_
   try simp only [thenQ, blockQ, noGotoQ]
   refine y0 _ ?_
   try clear y0 Y0
   refine AWp_seqK fun Y0 y0 => ?_
   refine AWp_region ?_
   iterate 2 (refine aops_chunk 1 fun Q0 q0 => ?_; simp only [↓bO, go_sem, seval, Tok.cells, qC, partC, List.take, List.drop, enumO]; refine q0 _ ?_; clear q0 Q0; simp only [go_sem])
   refine aops_chunk 1 fun Q0 q0 => ?_
   simp only [↓bO, go_sem, seval, Tok.cells, qC, partC, List.take, List.drop, enumO]
   refine QEx.at (k := 0) (hA i n hb hf h3 h4) ?_ rfl (by first | omega | (simp only; omega)) ?_
   · exact ⟨.ptr rfl, .v _, trivial⟩
   intro p hp
   simp only [partC, putO, Nat.reduceEqDiff, ↓reduceIte]
   try simp only [bS, bA, thenQ, blockQ, noGotoQ]
   refine q0 _ ?_
   clear q0 Q0
   simp only [go_sem]
   refine aops_chunk 1 fun Q0 q0 => ?_
   simp only [↓bO, go_sem, seval, Tok.cells, qC, partC, List.take, List.drop, enumO]
   refine q0 _ ?_
   clear q0 Q0
   simp only [go_sem]
   simp only [↓bO, go_sem, seval, Tok.cells, qC, partC, List.take, List.drop, enumO]
   refine y0 _ ?_
   try clear y0 Y0
   refine AWp_seqK fun Y0 y0 => ?_
   refine AWp_block ?_
   refine AWp_loopM (σ := Rdx × Pt) (mB 44 51) (fun s => ApI (rx l m f) l m n r i s) (fun s => []) (fun s => [(2, .cells 102 (partC s.2)), (0, .cells 78 (qC l s.1.i m s.1.e))]) (fun s => (if s.1.e = 0 then l.length - s.1.i + 1 else 0)) (atR (rx l m f) l m i n, p) (hr ▸ apx_start m n hR hi hp) ?_ (fun s hs => ?_)
   ·
    try simp only [maskL, setsL, putsO, putO, mB, List.set_cons_zero, List.set_cons_succ, seval]
    exact Weak.mk (by simp only [go_sem, Le.refl, Le.any, Le.slNil, Int.natCast_add, Int.cast_ofNat_Int, Int.natCast_one]) (fun _ _ h => h) rfl rfl
   simp only [maskL, setsL, putsO, putO, mB, List.set_cons_zero, List.set_cons_succ, seval]
   refine AWp_seqK fun Y1 y1 => ?_
   refine AWp_seqK fun Y2 y2 => ?_
   refine AWp_region ?_
   iterate 6 (refine aops_chunk 1 fun Q0 q0 => ?_; simp only [↓bO, go_sem, seval, Tok.cells, qC, partC, List.take, List.drop, enumO]; refine q0 _ ?_; clear q0 Q0; simp only [go_sem])
   refine aops_case 22 rfl (fun hc22 => ?_) (fun hc22 => ?_)
   ·
    simp only [List.set_cons_zero, List.set_cons_succ]
    have he : s.1.e = 0 := by simpa using hc22
    refine aops_chunk 1 fun Q0 q0 => ?_
    simp only [↓bO, go_sem, seval, Tok.cells, qC, partC, List.take, List.drop, enumO]
    refine q0 _ ?_
    clear q0 Q0
    simp only [go_sem]
    refine aops_chunk 1 fun Q0 q0 => ?_
    simp only [↓bO, go_sem, seval, Tok.cells, qC, partC, List.take, List.drop, enumO]
    refine QCalls.at (k := 0) (ahead_q l m (s.1.i) s.1.e hl) ?_ (.v _) rfl (by first | omega | (simp only; omega)) ?_
    · exact ⟨.ptr rfl, trivial⟩
    simp only [putO, Nat.reduceEqDiff, ↓reduceIte]
    try simp only [bS, bA, thenQ, blockQ, noGotoQ]
    refine q0 _ ?_
    clear q0 Q0
    simp only [go_sem]
    simp only [↓bO, go_sem, seval, Tok.cells, qC, partC, List.take, List.drop, enumO]
    refine y2 _ ?_
    try clear y2 Y2
    refine AWp_cond rfl (fun hb25 => ?_) (fun hb25 => ?_)
    ·
     have hbg : beg l s.1.i = true := hb25
     have hib := hs.1.1
     refine AWp_skip ?_
     try simp only [thenQ, blockQ, noGotoQ]
     refine y1 _ ?_
     try clear y1 Y1
     refine AWp_block ?_
     refine AWp_seqK fun Y1 y1 => ?_
     refine AWp_region ?_
     iterate 2 (refine aops_chunk 1 fun Q0 q0 => ?_; simp only [↓bO, go_sem, seval, Tok.cells, qC, partC, List.take, List.drop, enumO]; refine q0 _ ?_; clear q0 Q0; simp only [go_sem])
     refine aops_chunk 1 fun Q0 q0 => ?_
     simp only [↓bO, go_sem, seval, Tok.cells, qC, partC, List.take, List.drop, enumO]
     refine QEx.at (k := 0) (show QEx 97 [.ptr 0 0, .v (.int .i64 n)] l m s.1.i s.1.e (atR (rx l m f) l m s.1.i n) from by rw [he]; exact hA s.1.i n hbg (by omega) h3 (by omega)) ?_ rfl (by first | omega | (simp only; omega)) ?_
     · exact ⟨.ptr rfl, .v _, trivial⟩
     intro q hq
     simp only [partC, putO, Nat.reduceEqDiff, ↓reduceIte]
     try simp only [bS, bA, thenQ, blockQ, noGotoQ]
     refine q0 _ ?_
     clear q0 Q0
     simp only [go_sem]
     refine aops_chunk 1 fun Q0 q0 => ?_
     simp only [↓bO, go_sem, seval, Tok.cells, qC, partC, List.take, List.drop, enumO]
     refine q0 _ ?_
     clear q0 Q0
     simp only [go_sem]
     simp only [↓bO, go_sem, seval, Tok.cells, qC, partC, List.take, List.drop, enumO]
     refine y1 _ ?_
     try clear y1 Y1
     refine AWp_seqK fun Y1 y1 => ?_
     refine AWp_region ?_
     iterate 4 (refine aops_chunk 1 fun Q0 q0 => ?_; simp only [↓bO, go_sem, seval, Tok.cells, qC, partC, List.take, List.drop, enumO]; refine q0 _ ?_; clear q0 Q0; simp only [go_sem])
     refine aops_chunk 1 fun Q0 q0 => ?_
     simp only [↓bO, go_sem, seval, Tok.cells, qC, partC, List.take, List.drop, enumO]
     refine APure.call (SpJoin_pure (s.2.2.1, s.2.2.2) (q.2.1, q.2.2)) ?_
     try simp only [bS, bA, thenQ, blockQ, noGotoQ]
     refine q0 _ ?_
     clear q0 Q0
     simp only [go_sem]
     refine aops_chunk 1 fun Q0 q0 => ?_
     simp only [↓bO, go_sem, seval, Tok.cells, qC, partC, List.take, List.drop, enumO]
     refine q0 _ ?_
     clear q0 Q0
     simp only [go_sem]
     simp only [↓bO, go_sem, seval, Tok.cells, qC, partC, List.take, List.drop, enumO]
     refine y1 _ ?_
     try clear y1 Y1
     refine AWp_region ?_
     iterate 4 (refine aops_chunk 1 fun Q0 q0 => ?_; simp only [↓bO, go_sem, seval, Tok.cells, qC, partC, List.take, List.drop, enumO]; refine q0 _ ?_; clear q0 Q0; simp only [go_sem])
     refine aops_chunk 1 fun Q0 q0 => ?_
     simp only [↓bO, go_sem, seval, ↓bs2_1, ↓bs2_2, ↓bs2_3, ↓bs2_4, ↓bs2_5, ↓bs2_6, ↓bs2_7, ↓bs2_8, ↓bs2_9, ↓bs2_10, ↓bs2_11, ↓bs2_12, Tok.cells, qC, partC, List.take, List.drop, enumO]
     iterate 4 (refine q0 _ ?_; clear q0 Q0; simp only [go_sem]; refine aops_chunk 1 fun Q0 q0 => ?_; simp only [↓bO, go_sem, seval, Tok.cells, qC, partC, List.take, List.drop, enumO])
     refine q0 _ ?_
     clear q0 Q0
     simp only [go_sem]
     simp only [↓bO, go_sem, seval, Tok.cells, qC, partC, List.take, List.drop, enumO]
     refine ⟨(apS s.1 (atR (rx l m f) l m s.1.i n), apP s.2 q), hs.next hR he hbg hq, hs.meas hR he, ?_⟩
     simp only [maskL, setsL, putsO, putO, mB, List.set_cons_zero, List.set_cons_succ, seval, apS_i, apS_e]
     refine Weak.trans (Weak.recell (id := 2) (t := 102) (partC (apP s.2 q)) rfl ?_) ?_
     ·
      rw [apP_cells]
      exact ⟨.refl _, .refl _, .refl _, .refl _, .refl _, Le.slNil 3, .refl _, .refl _, .refl _, .refl _, .refl _, trivial⟩
     simp only [putO, Nat.reduceEqDiff, ↓reduceIte]
     refine Weak.drops 2 3 rfl rfl (by simp only; omega) (by simp only; omega) ?_ ?_ ?_
     · simp only [go_sem, Le.refl, Le.any]
     · repeat' first | exact trivial | exact .any _ | exact .ptr (by omega) | exact .v _ _ | (refine ⟨?_, ?_⟩)
     · repeat' first | exact trivial | exact .v _ _ | exact .data (Tok.dataSl _) | exact .data (Tm.dataSl _) | exact .data (Ty.dataSl _) | (refine ⟨?_, ?_⟩) | omega
    ·
     have hbn := hb25
     refine AWp_exit ?_
     simp only [thenQ, blockQ, noGotoQ, bA, Nat.reduceEqDiff, ↓reduceIte]
     refine y0 _ ?_
     try clear y0 Y0
     refine AWp_seqK fun Y0 y0 => ?_
     refine AWp_region ?_
     refine aops_chunk 1 fun Q0 q0 => ?_
     simp only [↓bO, go_sem, seval, Tok.cells, qC, partC, List.take, List.drop, enumO]
     refine q0 _ ?_
     clear q0 Q0
     simp only [go_sem]
     simp only [↓bO, go_sem, seval, Tok.cells, qC, partC, List.take, List.drop, enumO]
     refine y0 _ ?_
     try clear y0 Y0
     refine AWp_ret ?_
     try simp only [thenQ, blockQ, noGotoQ, retQ, aRes, tupOf, bS, bA, aLoad, getO, pack, bL, Nat.reduceAdd, Nat.reduceLeDiff, Nat.reduceEqDiff, ↓reduceIte, ti102, tyX, Tok.cells, List.length_map, qC, partC, List.take, List.drop, enumO]
     have hst : ¬ (s.1.e = 0 ∧ beg l s.1.i = true) := fun h => by simp [h.2] at hbn
     have hrs := hs.stop hst
     subst hrs
     refine ⟨_, _, ⟨s.2, ?_, rfl, rfl⟩, .data (.agg (partC_data _)), qUnd (by omega) _ _ _ _, ?_, ?_, by omega⟩
     · exact hs.2.1
     · exact Le.refl _
     · first | exact ⟨0, rfl, rfl⟩ | exact ⟨1, rfl, rfl⟩ | exact ⟨2, rfl, rfl⟩ | exact ⟨3, rfl, rfl⟩ | exact ⟨4, rfl, rfl⟩ | exact ⟨5, rfl, rfl⟩ | exact ⟨6, rfl, rfl⟩ | exact ⟨7, rfl, rfl⟩ | exact ⟨8, rfl, rfl⟩ | exact ⟨9, rfl, rfl⟩
   ·
    simp only [List.set_cons_zero, List.set_cons_succ]
    have he : ¬ s.1.e = 0 := by simpa using hc22
    iterate 2 (refine aops_chunk 1 fun Q0 q0 => ?_; simp only [↓bO, go_sem, seval, Tok.cells, qC, partC, List.take, List.drop, enumO]; refine q0 _ ?_; clear q0 Q0; simp only [go_sem])
    simp only [↓bO, go_sem, seval, Tok.cells, qC, partC, List.take, List.drop, enumO]
    refine y2 _ ?_
    try clear y2 Y2
    refine AWp_cond (b := false) (by first | exact rfl | exact congrArg (fun b => AV.v (.bool b)) hb25) (fun h => (by cases h)) (fun _ => ?_)
    refine AWp_exit ?_
    simp only [thenQ, blockQ, noGotoQ, bA, Nat.reduceEqDiff, ↓reduceIte]
    refine y0 _ ?_
    try clear y0 Y0
    refine AWp_seqK fun Y0 y0 => ?_
    refine AWp_region ?_
    refine aops_chunk 1 fun Q0 q0 => ?_
    simp only [↓bO, go_sem, seval, Tok.cells, qC, partC, List.take, List.drop, enumO]
    refine q0 _ ?_
    clear q0 Q0
    simp only [go_sem]
    simp only [↓bO, go_sem, seval, Tok.cells, qC, partC, List.take, List.drop, enumO]
    refine y0 _ ?_
    try clear y0 Y0
    refine AWp_ret ?_
    try simp only [thenQ, blockQ, noGotoQ, retQ, aRes, tupOf, bS, bA, aLoad, getO, pack, bL, Nat.reduceAdd, Nat.reduceLeDiff, Nat.reduceEqDiff, ↓reduceIte, ti102, tyX, Tok.cells, List.length_map, qC, partC, List.take, List.drop, enumO]
    have hst : ¬ (s.1.e = 0 ∧ beg l s.1.i = true) := fun h => he h.1
    have hrs := hs.stop hst
    subst hrs
    refine ⟨_, _, ⟨s.2, ?_, rfl, rfl⟩, .data (.agg (partC_data _)), qUnd (by omega) _ _ _ _, ?_, ?_, by omega⟩
    · exact hs.2.1
    · exact Le.refl _
    · first | exact ⟨0, rfl, rfl⟩ | exact ⟨1, rfl, rfl⟩ | exact ⟨2, rfl, rfl⟩ | exact ⟨3, rfl, rfl⟩ | exact ⟨4, rfl, rfl⟩ | exact ⟨5, rfl, rfl⟩ | exact ⟨6, rfl, rfl⟩ | exact ⟨7, rfl, rfl⟩ | exact ⟨8, rfl, rfl⟩ | exact ⟨9, rfl, rfl⟩
end Go.Proofs.YtkokfdmggdhfmaaDoor
