/- Texts of the abstract walk, of the contracts and of the plain laws, packed (part 39 of 40): Sg5 Sg6 Sg7 Sg8 Types Ref11 Rob1 TxL WdL TkL Sg10 LsI Sg12 Sg17 TkW Sg18 LsC Sg19 Sg20 Sg13 Sg14 Sg15 NuL PwL LsA. Conditions: none. -/
import Derived.Test.YtkokfdmggdhfmaaDoorPk38
import Derived.Lib.ItoaLen
import Derived.Lib.AppendIntMem
import Derived.Shelf.LaysM
import Derived.Shelf.LaysC
import Derived.Shelf.Strconv.Itoa3
import Derived.Test.YtkokfdmggdhfmaaDoorProg
import Derived.Shelf.Small.Wraps
import Derived.Lib.AtoiTie
import Derived.Shelf.Strconv.ErrVarAll
import Derived.Shelf.Strconv.AtoiAll
namespace Go.Proofs.YtkokfdmggdhfmaaDoor
open Go Go.RowKit
set_option maxRecDepth 100000
set_option maxHeartbeats 4000000
set_option linter.unusedSimpArgs false
set_option linter.unnecessarySimpa false
set_option linter.unusedVariables false
attribute [local irreducible] aops dRun
def rC (l : List Tok) (m i e : Int) : List AV := [.sl 4 (l.map Tok.cells), .v (.int .i64 i), .v (.int .i64 m), .v (.int .i64 e)]
def RCalls (f : Nat) (args : List AV) (l : List Tok) (m i e : Int) (R : AV) (j d : Int) : Prop :=
  ACalls Tryd.prog f args [(0, .cells 65 (rC l m i e))] 1 fun r os n => (r = R ∧ os = [(0, .cells 65 (rC l m j d))]) ∧ n = 1
theorem RCalls.at {f : Nat} {args args' : List AV} {l : List Tok} {m i e : Int} {R : AV} {j d : Int} (h : RCalls f args l m i e R j d) {k : Nat} {os' : Os} {nx' : Nat} (hargs : RenL (renOf [k] nx') args args') (hR : Data R)
    (hk : getO os' k = some (.cells 65 (rC l m i e))) (lk : k < nx') {Q' : AV → Os → Nat → Prop} (hq : Q' R (putO os' k (.cells 65 (rC l m j d))) nx') : ACalls Tryd.prog f args' os' nx' Q' := by
  have ren : ∀ i e, RenOs (renOf [k] nx') 0 [.cells 65 (rC l m i e)] [.cells 65 (rC l m i e)] := fun i e => ⟨.cells ⟨.data (Tok.dataSl l), .v _, .v _, .v _, trivial⟩, trivial⟩
  refine ACalls.at (args := args) (obs := [.cells 65 (rC l m i e)]) (obs1 := [.cells 65 (rC l m j d)]) (obs' := [.cells 65 (rC l m i e)]) (obs1' := [.cells 65 (rC l m j d)]) [k] ?_ rfl rfl (by simp) (by simpa using lk) hargs (.data hR) (ren i e) ⟨hk, trivial⟩ (ren j d) hq
  exact h.mono fun r os n ⟨⟨h1, h2⟩, h3⟩ => ⟨h1, h2, h3⟩
theorem rUnd {n : Nat} (h : 1 ≤ n) (l : List Tok) (m i e : Int) : UndOs n [(0, .cells 65 (rC l m i e))] := ⟨by omega, ⟨.data (Tok.dataSl l), .v _ _, .v _ _, .v _ _, trivial⟩, trivial⟩
theorem fail_c (l : List Tok) (m i e : Int) (b : Bool) (c : Int) : RCalls 51 [.ptr 0 0, .v (.bool b), .v (.int .i64 c)] l m (i) (e) (.tup []) (i) (if b = true ∧ e = 0 then c else e) := by
  refine ACalls.clean (C := fun r os' => r = _ ∧ os' = _) ?_
  refine ACalls_intro Tryd.func51 (by kernel_rfl) rfl (by rw [Tryd.ntmps51]; simp) (fun hm => ?_)
  simp only [Tryd.ntmps51, Tryd.results51, List.length_cons, List.length_nil, Nat.reduceAdd, Nat.reduceSub, List.replicate_succ, List.replicate_zero, List.cons_append, List.nil_append]
  refine AWp_seqK fun Y0 y0 => ?_
  refine AWp_region ?_
  iterate 2 (refine aops_chunk 1 fun Q0 q0 => ?_; simp only [↓bO, go_sem, seval, Tok.cells, rC]; refine q0 _ ?_; clear q0 Q0; simp only [go_sem])
  refine aops_case 7 rfl (fun hc7 => ?_) (fun hc7 => ?_)
  ·
   simp only [List.set_cons_zero, List.set_cons_succ]
   have h7 : b = true := by simpa using hc7
   iterate 5 (refine aops_chunk 1 fun Q0 q0 => ?_; simp only [↓bO, go_sem, seval, Tok.cells, rC]; refine q0 _ ?_; clear q0 Q0; simp only [go_sem])
   simp only [↓bO, go_sem, seval, Tok.cells, rC]
   refine y0 _ ?_
   try clear y0 Y0
   refine AWp_cond rfl (fun hb13 => ?_) (fun hb13 => ?_)
   ·
    have h13 : e = 0 := by simpa using hb13
    refine AWp_region ?_
    iterate 4 (refine aops_chunk 1 fun Q0 q0 => ?_; simp only [↓bO, go_sem, seval, Tok.cells, rC]; refine q0 _ ?_; clear q0 Q0; simp only [go_sem])
    simp only [↓bO, go_sem, seval, Tok.cells, rC]
    try simp only [thenQ, blockQ, noGotoQ, retQ, aRes, tupOf, bS, bA]
    rw [if_pos ⟨h7, h13⟩]
    refine ⟨_, _, ⟨rfl, rfl⟩, .data (.tup .nil), rUnd (by omega) _ _ _ _, ?_, ?_, by omega⟩
    · exact Le.refl _
    · first | exact ⟨0, rfl, rfl⟩ | exact ⟨1, rfl, rfl⟩ | exact ⟨2, rfl, rfl⟩ | exact ⟨3, rfl, rfl⟩
   ·
    have h13 : ¬ e = 0 := by simpa using hb13
    refine AWp_skip ?_
    try simp only [thenQ, blockQ, noGotoQ]
    try simp only [thenQ, blockQ, noGotoQ, retQ, aRes, tupOf, bS, bA]
    rw [if_neg fun h => h13 h.2]
    refine ⟨_, _, ⟨rfl, rfl⟩, .data (.tup .nil), rUnd (by omega) _ _ _ _, ?_, ?_, by omega⟩
    · exact Le.refl _
    · first | exact ⟨0, rfl, rfl⟩ | exact ⟨1, rfl, rfl⟩ | exact ⟨2, rfl, rfl⟩ | exact ⟨3, rfl, rfl⟩
  ·
   simp only [List.set_cons_zero, List.set_cons_succ]
   have h7 : ¬ b = true := by simpa using hc7
   iterate 5 (refine aops_chunk 1 fun Q0 q0 => ?_; simp only [↓bO, go_sem, seval, Tok.cells, rC]; refine q0 _ ?_; clear q0 Q0; simp only [go_sem])
   simp only [↓bO, go_sem, seval, Tok.cells, rC]
   refine y0 _ ?_
   try clear y0 Y0
   refine AWp_cond (b := false) (by first | exact rfl | exact congrArg (fun b => AV.v (.bool b)) hb13) (fun h => (by cases h)) (fun _ => ?_)
   refine AWp_skip ?_
   try simp only [thenQ, blockQ, noGotoQ]
   try simp only [thenQ, blockQ, noGotoQ, retQ, aRes, tupOf, bS, bA]
   rw [if_neg fun h => h7 h.1]
   refine ⟨_, _, ⟨rfl, rfl⟩, .data (.tup .nil), rUnd (by omega) _ _ _ _, ?_, ?_, by omega⟩
   · exact Le.refl _
   · first | exact ⟨0, rfl, rfl⟩ | exact ⟨1, rfl, rfl⟩ | exact ⟨2, rfl, rfl⟩ | exact ⟨3, rfl, rfl⟩
theorem sign_c (l : List Tok) (m i e : Int) (k : Int) (s : ByteArray) (hl : l.length ≤ 1048576) : RCalls 52 [.ptr 0 0, .v (.int .i64 k), .v (.string s)] l m (i) (e) (.v (.bool (isT l i k s))) (if isT l i k s = true then i + 1 else i) (e) := by
  refine ACalls.clean (C := fun r os' => r = _ ∧ os' = _) ?_
  refine ACalls_intro Tryd.func52 (by kernel_rfl) rfl (by rw [Tryd.ntmps52]; simp) (fun hm => ?_)
  simp only [Tryd.ntmps52, Tryd.results52, List.length_cons, List.length_nil, Nat.reduceAdd, Nat.reduceSub, List.replicate_succ, List.replicate_zero, List.cons_append, List.nil_append]
  refine AWp_seqK fun Y0 y0 => ?_
  refine AWp_region ?_
  simp only [↓bO, go_sem, seval, Tok.cells, rC]
  refine y0 _ ?_
  try clear y0 Y0
  refine AWp_seqK fun Y0 y0 => ?_
  refine AWp_drawK 47 mixed (by kernel_rfl) fun J0 j0 => ?_
  iterate 6 (simp only [go_sem]; refine dRun_chunk 1 fun Q0 q0 => ?_; simp only [↓dRun, ↓dOp, ↓bO, go_sem, seval, Tok.cells, rC]; refine q0 _ ?_; clear q0 Q0)
  simp only [go_sem]
  refine dRun_case 13 rfl (fun hc13 => ?_) (fun hc13 => ?_)
  ·
   simp only [List.set_cons_zero, List.set_cons_succ]
   have h0 : 0 ≤ i := by simpa using hc13
   iterate 12 (refine dRun_chunk 1 fun Q0 q0 => ?_; simp only [↓dRun, ↓dOp, ↓bO, go_sem, seval, Tok.cells, rC, h0]; refine q0 _ ?_; clear q0 Q0; simp only [go_sem])
   refine dRun_case 25 rfl (fun hc25 => ?_) (fun hc25 => ?_)
   ·
    simp only [List.set_cons_zero, List.set_cons_succ]
    have h1 : i < (l.length : Int) := by simpa using hc25
    obtain ⟨n, rfl⟩ : ∃ n : Nat, i = (n : Int) := ⟨i.toNat, by omega⟩
    have hn : n < l.length := by omega
    obtain ⟨t, ht⟩ : ∃ t, l[n]? = some t := ⟨_, List.getElem?_eq_getElem hn⟩
    have hw : IntKind.i64.wrap ((n : Int) + 1) = (n : Int) + 1 := wrap_in (by omega) (by omega)
    iterate 15 (refine dRun_chunk 1 fun Q0 q0 => ?_; simp only [↓dRun, ↓dOp, ↓bO, go_sem, seval, Tok.cells, rC, h0, hn, gM ht, hw]; refine q0 _ ?_; clear q0 Q0; simp only [go_sem])
    refine dRun_case 40 rfl (fun hc40 => ?_) (fun hc40 => ?_)
    ·
     simp only [List.set_cons_zero, List.set_cons_succ]
     have h2 : t.k = k := by simpa using hc40
     iterate 13 (refine dRun_chunk 1 fun Q0 q0 => ?_; simp only [↓dRun, ↓dOp, ↓bO, go_sem, seval, Tok.cells, rC, h0, hn, gM ht, hw]; refine q0 _ ?_; clear q0 Q0; simp only [go_sem])
     simp only [↓dRun, ↓dOp, ↓bO, go_sem, seval, Tok.cells, rC, h0, hn, gM ht, hw]
     refine j0 _ ?_
     clear j0 J0
     simp only [go_sem]
     simp only [↓bO, go_sem, seval, Tok.cells, rC, h0, hn, gM ht, hw]
     refine y0 _ ?_
     try clear y0 Y0
     refine AWp_seqK fun Y0 y0 => ?_
     refine AWp_seqK fun Y1 y1 => ?_
     refine AWp_region ?_
     simp only [↓bO, go_sem, seval, Tok.cells, rC, h0, hn, gM ht, hw]
     refine y1 _ ?_
     try clear y1 Y1
     refine AWp_cond rfl (fun hb55 => ?_) (fun hb55 => ?_)
     ·
      have h3 : eqS t.s s = true := hb55
      refine AWp_region ?_
      iterate 7 (refine aops_chunk 1 fun Q0 q0 => ?_; simp only [↓bO, go_sem, seval, Tok.cells, rC, h0, hn, gM ht, hw]; refine q0 _ ?_; clear q0 Q0; simp only [go_sem])
      simp only [↓bO, go_sem, seval, Tok.cells, rC, h0, hn, gM ht, hw]
      refine y0 _ ?_
      try clear y0 Y0
      refine AWp_seqK fun Y0 y0 => ?_
      refine AWp_region ?_
      refine aops_chunk 1 fun Q0 q0 => ?_
      simp only [↓bO, go_sem, seval, Tok.cells, rC, h0, hn, gM ht, hw]
      refine q0 _ ?_
      clear q0 Q0
      simp only [go_sem]
      simp only [↓bO, go_sem, seval, Tok.cells, rC, h0, hn, gM ht, hw]
      refine y0 _ ?_
      try clear y0 Y0
      refine AWp_ret ?_
      try simp only [thenQ, blockQ, noGotoQ, retQ, aRes, tupOf, bS, bA]
      rw [(isT_yes (by omega) (by simpa using ht) h2).trans h3, if_pos rfl]
      refine ⟨_, _, ⟨rfl, rfl⟩, .v _ _, rUnd (by omega) _ _ _ _, ?_, ?_, by omega⟩
      · first | exact Le.refl _ | exact Le.of_eq (congrArg (fun b => AV.v (.bool b)) h3)
      · first | exact ⟨0, rfl, rfl⟩ | exact ⟨1, rfl, rfl⟩ | exact ⟨2, rfl, rfl⟩ | exact ⟨3, rfl, rfl⟩
     ·
      have h3 : eqS t.s s = false := hb55
      refine AWp_skip ?_
      try simp only [thenQ, blockQ, noGotoQ]
      refine y0 _ ?_
      try clear y0 Y0
      refine AWp_seqK fun Y0 y0 => ?_
      refine AWp_region ?_
      refine aops_chunk 1 fun Q0 q0 => ?_
      simp only [↓bO, go_sem, seval, Tok.cells, rC, h0, hn, gM ht, hw]
      refine q0 _ ?_
      clear q0 Q0
      simp only [go_sem]
      simp only [↓bO, go_sem, seval, Tok.cells, rC, h0, hn, gM ht, hw]
      refine y0 _ ?_
      try clear y0 Y0
      refine AWp_ret ?_
      try simp only [thenQ, blockQ, noGotoQ, retQ, aRes, tupOf, bS, bA]
      have hr : isT l _ k s = false := (isT_yes (by omega) (by simpa using ht) h2).trans h3
      rw [hr, if_neg (by simp)]
      refine ⟨_, _, ⟨rfl, rfl⟩, .v _ _, rUnd (by omega) _ _ _ _, ?_, ?_, by omega⟩
      · first | exact Le.refl _ | exact Le.of_eq (congrArg (fun b => AV.v (.bool b)) h3)
      · first | exact ⟨0, rfl, rfl⟩ | exact ⟨1, rfl, rfl⟩ | exact ⟨2, rfl, rfl⟩ | exact ⟨3, rfl, rfl⟩
    ·
     simp only [List.set_cons_zero, List.set_cons_succ]
     have h2 : ¬ t.k = k := by simpa using hc40
     iterate 13 (refine dRun_chunk 1 fun Q0 q0 => ?_; simp only [↓dRun, ↓dOp, ↓bO, go_sem, seval, Tok.cells, rC, h0, hn, gM ht, hw]; refine q0 _ ?_; clear q0 Q0; simp only [go_sem])
     simp only [↓dRun, ↓dOp, ↓bO, go_sem, seval, Tok.cells, rC, h0, hn, gM ht, hw]
     refine j0 _ ?_
     clear j0 J0
     simp only [go_sem]
     simp only [↓bO, go_sem, seval, Tok.cells, rC, h0, hn, gM ht, hw]
     refine y0 _ ?_
     try clear y0 Y0
     refine AWp_seqK fun Y0 y0 => ?_
     refine AWp_seqK fun Y1 y1 => ?_
     refine AWp_region ?_
     simp only [↓bO, go_sem, seval, Tok.cells, rC, h0, hn, gM ht, hw]
     refine y1 _ ?_
     try clear y1 Y1
     refine AWp_cond (b := false) (by first | exact rfl | exact congrArg (fun b => AV.v (.bool b)) hb55) (fun h => (by cases h)) (fun _ => ?_)
     refine AWp_skip ?_
     try simp only [thenQ, blockQ, noGotoQ]
     refine y0 _ ?_
     try clear y0 Y0
     refine AWp_seqK fun Y0 y0 => ?_
     refine AWp_region ?_
     refine aops_chunk 1 fun Q0 q0 => ?_
     simp only [↓bO, go_sem, seval, Tok.cells, rC, h0, hn, gM ht, hw]
     refine q0 _ ?_
     clear q0 Q0
     simp only [go_sem]
     simp only [↓bO, go_sem, seval, Tok.cells, rC, h0, hn, gM ht, hw]
     refine y0 _ ?_
     try clear y0 Y0
     refine AWp_ret ?_
     try simp only [thenQ, blockQ, noGotoQ, retQ, aRes, tupOf, bS, bA]
     have hr : isT l _ k s = false := isT_no (by omega) (by simpa using ht) h2
     rw [hr, if_neg (by simp)]
     refine ⟨_, _, ⟨rfl, rfl⟩, .v _ _, rUnd (by omega) _ _ _ _, ?_, ?_, by omega⟩
     · first | exact Le.refl _ | exact Le.of_eq (congrArg (fun b => AV.v (.bool b)) h3)
     · first | exact ⟨0, rfl, rfl⟩ | exact ⟨1, rfl, rfl⟩ | exact ⟨2, rfl, rfl⟩ | exact ⟨3, rfl, rfl⟩
   ·
    simp only [List.set_cons_zero, List.set_cons_succ]
    have h1 : ¬ i < (l.length : Int) := by simpa using hc25
    iterate 28 (refine dRun_chunk 1 fun Q0 q0 => ?_; simp only [↓dRun, ↓dOp, ↓bO, go_sem, seval, Tok.cells, rC, h0]; refine q0 _ ?_; clear q0 Q0; simp only [go_sem])
    simp only [↓dRun, ↓dOp, ↓bO, go_sem, seval, Tok.cells, rC, h0]
    refine j0 _ ?_
    clear j0 J0
    simp only [go_sem]
    simp only [↓bO, go_sem, seval, Tok.cells, rC, h0]
    refine y0 _ ?_
    try clear y0 Y0
    refine AWp_seqK fun Y0 y0 => ?_
    refine AWp_seqK fun Y1 y1 => ?_
    refine AWp_region ?_
    simp only [↓bO, go_sem, seval, Tok.cells, rC, h0]
    refine y1 _ ?_
    try clear y1 Y1
    refine AWp_cond (b := false) (by first | exact rfl | exact congrArg (fun b => AV.v (.bool b)) hb55) (fun h => (by cases h)) (fun _ => ?_)
    refine AWp_skip ?_
    try simp only [thenQ, blockQ, noGotoQ]
    refine y0 _ ?_
    try clear y0 Y0
    refine AWp_seqK fun Y0 y0 => ?_
    refine AWp_region ?_
    refine aops_chunk 1 fun Q0 q0 => ?_
    simp only [↓bO, go_sem, seval, Tok.cells, rC, h0]
    refine q0 _ ?_
    clear q0 Q0
    simp only [go_sem]
    simp only [↓bO, go_sem, seval, Tok.cells, rC, h0]
    refine y0 _ ?_
    try clear y0 Y0
    refine AWp_ret ?_
    try simp only [thenQ, blockQ, noGotoQ, retQ, aRes, tupOf, bS, bA]
    have hr : isT l _ k s = false := isT_out fun h => h1 h.2
    rw [hr, if_neg (by simp)]
    refine ⟨_, _, ⟨rfl, rfl⟩, .v _ _, rUnd (by omega) _ _ _ _, ?_, ?_, by omega⟩
    · first | exact Le.refl _ | exact Le.of_eq (congrArg (fun b => AV.v (.bool b)) h3)
    · first | exact ⟨0, rfl, rfl⟩ | exact ⟨1, rfl, rfl⟩ | exact ⟨2, rfl, rfl⟩ | exact ⟨3, rfl, rfl⟩
  ·
   simp only [List.set_cons_zero, List.set_cons_succ]
   have h0 : ¬ 0 ≤ i := by simpa using hc13
   iterate 40 (refine dRun_chunk 1 fun Q0 q0 => ?_; simp only [↓dRun, ↓dOp, ↓bO, go_sem, seval, Tok.cells, rC]; refine q0 _ ?_; clear q0 Q0; simp only [go_sem])
   simp only [↓dRun, ↓dOp, ↓bO, go_sem, seval, Tok.cells, rC]
   refine j0 _ ?_
   clear j0 J0
   simp only [go_sem]
   simp only [↓bO, go_sem, seval, Tok.cells, rC]
   refine y0 _ ?_
   try clear y0 Y0
   refine AWp_seqK fun Y0 y0 => ?_
   refine AWp_seqK fun Y1 y1 => ?_
   refine AWp_region ?_
   simp only [↓bO, go_sem, seval, Tok.cells, rC]
   refine y1 _ ?_
   try clear y1 Y1
   refine AWp_cond (b := false) (by first | exact rfl | exact congrArg (fun b => AV.v (.bool b)) hb55) (fun h => (by cases h)) (fun _ => ?_)
   refine AWp_skip ?_
   try simp only [thenQ, blockQ, noGotoQ]
   refine y0 _ ?_
   try clear y0 Y0
   refine AWp_seqK fun Y0 y0 => ?_
   refine AWp_region ?_
   refine aops_chunk 1 fun Q0 q0 => ?_
   simp only [↓bO, go_sem, seval, Tok.cells, rC]
   refine q0 _ ?_
   clear q0 Q0
   simp only [go_sem]
   simp only [↓bO, go_sem, seval, Tok.cells, rC]
   refine y0 _ ?_
   try clear y0 Y0
   refine AWp_ret ?_
   try simp only [thenQ, blockQ, noGotoQ, retQ, aRes, tupOf, bS, bA]
   have hr : isT l _ k s = false := isT_out fun h => h0 h.1
   rw [hr, if_neg (by simp)]
   refine ⟨_, _, ⟨rfl, rfl⟩, .v _ _, rUnd (by omega) _ _ _ _, ?_, ?_, by omega⟩
   · first | exact Le.refl _ | exact Le.of_eq (congrArg (fun b => AV.v (.bool b)) h3)
   · first | exact ⟨0, rfl, rfl⟩ | exact ⟨1, rfl, rfl⟩ | exact ⟨2, rfl, rfl⟩ | exact ⟨3, rfl, rfl⟩
def WholeOk (l : List Tok) (m : Int) (g : Nat) : Prop := ∀ i lv : Int, lft l i < g → -1000000 ≤ lv → lv + lft l i ≤ 1000000 →
  RCalls 26 [.ptr 0 0, .v (.int .i64 lv)] l m i 0 (.agg (rdP l m g none i lv).1.cells) (rdP l m g none i lv).2.1 (rdP l m g none i lv).2.2
theorem list_c (l : List Tok) (m : Int) (f : Nat) (hl : l.length ≤ 1048576) (ih : ∀ g, g ≤ f → WholeOk l m g) (i lv : Int) (hi : lft l i < f) (hlv : -1000000 ≤ lv) (hlv2 : lv + lft l i ≤ 1000000) : RCalls 53 [.ptr 0 0, .v (.int .i64 lv), .mth 26 [.ptr 0 0]] l m i 0 (.agg (lsP l m f i lv).1.cells) (lsP l m f i lv).2.1 (lsP l m f i lv).2.2 := by
  refine ACalls.clean (C := fun r os' => r = _ ∧ os' = _) ?_
  refine ACalls_intro Tryd.func53 (by kernel_rfl) rfl (by rw [Tryd.ntmps53]; simp) (fun hm => ?_)
  simp only [Tryd.ntmps53, Tryd.results53, List.length_cons, List.length_nil, Nat.reduceAdd, Nat.reduceSub, List.replicate_succ, List.replicate_zero, List.cons_append, List.nil_append]
  refine AWp_seqK fun Y0 y0 => ?_
  refine AWp_region ?_
  simp only [↓bO, go_sem, seval, Tok.cells, rC]
  refine y0 _ ?_
  try clear y0 Y0
  refine AWp_scope ?_
  refine AWp_seqK fun Y0 y0 => ?_
  refine AWp_midK 3 [_] [_] rfl fun Q0 q0 => ?_
  iterate 2 (simp only [go_sem]; refine aops_chunk 1 fun Q0 q0 => ?_; simp only [↓bO, go_sem, seval, Tok.cells, rC]; refine q0 _ ?_; clear q0 Q0)
  simp only [go_sem]
  simp only [↓bO, go_sem, seval, Tok.cells, rC]
  refine RCalls.at (k := 0) (ih f (Nat.le_refl f) i lv hi hlv hlv2) ?_ (Ty.dataAgg _) rfl (by first | omega | (simp only; omega)) ?_
  · exact ⟨.ptr rfl, .v _, trivial⟩
  simp only [putO, Nat.reduceEqDiff, ↓reduceIte]
  try simp only [bS, bA, thenQ, blockQ, noGotoQ]
  refine q0 _ ?_
  clear q0 Q0
  refine MidAt_lit ei23 (by decide) rfl (by decide) (by intro p hp; simp at hp; subst hp; exact ⟨rfl, Ty.cells_len _⟩) ?_
  simp only [putO, bS, bA, tyX, Tok.cells, List.length_map, rC]
  simp only [↓bO, go_sem, seval, Tok.cells, rC]
  refine y0 _ ?_
  try clear y0 Y0
  refine AWp_seqK fun Y0 y0 => ?_
  refine AWp_label ?_
  try simp only [thenQ, blockQ, noGotoQ]
  refine y0 _ ?_
  try clear y0 Y0
  refine AWp_seqK fun Y0 y0 => ?_
  refine AWp_block ?_
  refine AWp_loopM (σ := LS) (mB 55 199) (fun s => s.ok l m f lv i (lsP l m f i lv)) (fun s => [(7, .osl 2 3 (s.ps.map Ty.cells))]) (fun s => [(2, .tok 25 3 s.ps.length), (0, .cells 65 (rC l m s.i s.e))]) (fun s => if s.e = 0 then s.f + 1 else 0) ⟨f, [(rdP l m f none i lv).1], (rdP l m f none i lv).2.1, (rdP l m f none i lv).2.2⟩ (LS.start l m f i lv hi) ?_ (fun s hs => ?_)
  ·
   try simp only [maskL, setsL, putsO, putO, mB, List.set_cons_zero, List.set_cons_succ, seval, bL]
   exact Weak.mk (by simp only [go_sem, Le.refl, Le.any, Le.slNil, Int.natCast_add, Int.cast_ofNat_Int, Int.natCast_one]) (fun _ _ h => h) rfl rfl
  simp only [maskL, setsL, putsO, putO, mB, List.set_cons_zero, List.set_cons_succ, seval]
  refine AWp_seqK fun Y1 y1 => ?_
  refine AWp_seqK fun Y2 y2 => ?_
  refine AWp_region ?_
  iterate 4 (refine aops_chunk 1 fun Q0 q0 => ?_; simp only [↓bO, go_sem, seval, Tok.cells, rC, List.map_append, List.length_append]; refine q0 _ ?_; clear q0 Q0; simp only [go_sem])
  simp only [↓bO, go_sem, seval, Tok.cells, rC, List.map_append, List.length_append]
  refine y2 _ ?_
  try clear y2 Y2
  refine AWp_cond rfl (fun hb17 => ?_) (fun hb17 => ?_)
  ·
   have he : s.e = 0 := by simpa using hb17
   obtain ⟨g, hg, hgf, hlf⟩ := hs.fuel he
   have h8 := hs.2.1
   refine AWp_skip ?_
   try simp only [thenQ, blockQ, noGotoQ]
   refine y1 _ ?_
   try clear y1 Y1
   refine AWp_block ?_
   refine AWp_seqK fun Y1 y1 => ?_
   refine AWp_region ?_
   iterate 4 (refine aops_chunk 1 fun Q0 q0 => ?_; simp only [↓bO, go_sem, seval, Tok.cells, rC, List.map_append, List.length_append, he]; refine q0 _ ?_; clear q0 Q0; simp only [go_sem])
   simp only [↓bO, go_sem, seval, Tok.cells, rC, List.map_append, List.length_append, he]
   refine y1 _ ?_
   try clear y1 Y1
   refine AWp_block ?_
   refine AWp_seqK fun Y1 y1 => ?_
   refine AWp_region ?_
   refine aops_chunk 1 fun Q0 q0 => ?_
   simp only [↓bO, go_sem, seval, Tok.cells, rC, List.map_append, List.length_append, he]
   refine q0 _ ?_
   clear q0 Q0
   simp only [go_sem]
   refine aops_chunk 1 fun Q0 q0 => ?_
   simp only [↓bO, go_sem, seval, Tok.cells, rC, List.map_append, List.length_append, he]
   refine RCalls.at (k := 0) (sign_c l m s.i 0 4 bClose hl) ?_ (.v _) rfl (by first | omega | (simp only; omega)) ?_
   · exact ⟨.ptr rfl, .v _, .v _, trivial⟩
   simp only [putO, Nat.reduceEqDiff, ↓reduceIte]
   try simp only [bS, bA, thenQ, blockQ, noGotoQ]
   refine q0 _ ?_
   clear q0 Q0
   simp only [go_sem]
   simp only [↓bO, go_sem, seval, Tok.cells, rC, List.map_append, List.length_append, he]
   refine y1 _ ?_
   try clear y1 Y1
   refine AWp_cond rfl (fun hb28 => ?_) (fun hb28 => ?_)
   ·
    have h1 : isT l s.i 4 bClose = true := hb28
    simp only [h1, if_true]
    refine AWp_exit ?_
    simp only [thenQ, blockQ, noGotoQ, bA, Nat.reduceEqDiff, ↓reduceIte]
    refine y0 _ ?_
    try clear y0 Y0
    refine AWp_seqK fun Y0 y0 => ?_
    refine AWp_seqK fun Y1 y1 => ?_
    refine AWp_region ?_
    iterate 2 (refine aops_chunk 1 fun Q0 q0 => ?_; simp only [↓bO, go_sem, seval, Tok.cells, rC, he]; refine q0 _ ?_; clear q0 Q0; simp only [go_sem])
    simp only [↓bO, go_sem, seval, Tok.cells, rC, he]
    refine y1 _ ?_
    try clear y1 Y1
    refine AWp_cond rfl (fun hb49 => ?_) (fun hb49 => ?_)
    ·
     obtain ⟨t1, hps, htp⟩ := tupP_one (ps := s.ps) (by have h9 := hb49; simp at h9; omega)
     simp only [hps, List.map_cons, List.map_nil]
     refine AWp_seqK fun Y1 y1 => ?_
     refine AWp_region ?_
     iterate 3 (refine aops_chunk 1 fun Q0 q0 => ?_; simp only [↓bO, go_sem, seval, Tok.cells, rC, he]; refine q0 _ ?_; clear q0 Q0; simp only [go_sem])
     simp only [↓bO, go_sem, seval, Tok.cells, rC, he]
     refine y1 _ ?_
     try clear y1 Y1
     refine AWp_ret ?_
     try simp only [thenQ, blockQ, noGotoQ, retQ, aRes, tupOf, bS, bA, aLoad, getO, pack, bL, Nat.reduceAdd, Nat.reduceLeDiff, Nat.reduceEqDiff, ↓reduceIte, ti25, tyX, Tok.cells, List.length_map, rC, he]
     rw [hs.close he hg h1]
     refine ⟨_, _, ⟨rfl, rfl⟩, .data (Ty.dataAgg _), rUnd (by omega) _ _ _ _, ?_, ?_, by omega⟩
     · simp only [htp]; exact Le.refl _
     · exact ⟨2, rfl, rfl⟩
    ·
     have hln : ¬ s.ps.length = 1 := by (have h9 := hb49; simp at h9; omega)
     refine AWp_skip ?_
     try simp only [thenQ, blockQ, noGotoQ]
     refine y0 _ ?_
     try clear y0 Y0
     refine AWp_seqK fun Y0 y0 => ?_
     refine AWp_region ?_
     iterate 2 (refine aops_chunk 1 fun Q0 q0 => ?_; simp only [↓bO, go_sem, seval, Tok.cells, rC, he]; refine q0 _ ?_; clear q0 Q0; simp only [go_sem])
     simp only [↓bO, go_sem, seval, Tok.cells, rC, he]
     refine y0 _ ?_
     try clear y0 Y0
     refine AWp_ret ?_
     try simp only [thenQ, blockQ, noGotoQ, retQ, aRes, tupOf, bS, bA, aLoad, getO, pack, bL, Nat.reduceAdd, Nat.reduceLeDiff, Nat.reduceEqDiff, ↓reduceIte, ti25, tyX, Tok.cells, List.length_map, rC, he]
     rw [hs.close he hg h1]
     refine ⟨_, _, ⟨rfl, rfl⟩, .data (Ty.dataAgg _), rUnd (by omega) _ _ _ _, ?_, ?_, by omega⟩
     · simp only [tupP_more hln]; rw [Ty.cells_eq]; exact Le.agg ⟨.refl _, .refl _, Le.osl _ _ _, trivial⟩
     · exact ⟨2, rfl, rfl⟩
   ·
    have h1 : isT l s.i 4 bClose = false := hb28
    simp only [h1, Bool.false_eq_true, if_false]
    refine AWp_seqK fun Y1 y1 => ?_
    refine AWp_region ?_
    refine aops_chunk 1 fun Q0 q0 => ?_
    simp only [↓bO, go_sem, seval, Tok.cells, rC, List.map_append, List.length_append, he]
    refine q0 _ ?_
    clear q0 Q0
    simp only [go_sem]
    refine aops_chunk 1 fun Q0 q0 => ?_
    simp only [↓bO, go_sem, seval, Tok.cells, rC, List.map_append, List.length_append, he]
    refine RCalls.at (k := 0) (sign_c l m s.i 0 4 bStar hl) ?_ (.v _) rfl (by first | omega | (simp only; omega)) ?_
    · exact ⟨.ptr rfl, .v _, .v _, trivial⟩
    simp only [putO, Nat.reduceEqDiff, ↓reduceIte]
    try simp only [bS, bA, thenQ, blockQ, noGotoQ]
    refine q0 _ ?_
    clear q0 Q0
    simp only [go_sem]
    refine aops_chunk 1 fun Q0 q0 => ?_
    simp only [↓bO, go_sem, seval, Tok.cells, rC, List.map_append, List.length_append, he]
    refine q0 _ ?_
    clear q0 Q0
    simp only [go_sem]
    simp only [↓bO, go_sem, seval, Tok.cells, rC, List.map_append, List.length_append, he]
    refine y1 _ ?_
    try clear y1 Y1
    refine AWp_cond rfl (fun hb31 => ?_) (fun hb31 => ?_)
    ·
     have h2 : isT l s.i 4 bStar = false := by simpa using hb31
     simp only [h2, Bool.false_eq_true, if_false]
     refine AWp_region ?_
     refine aops_chunk 1 fun Q0 q0 => ?_
     simp only [↓bO, go_sem, seval, Tok.cells, rC, List.map_append, List.length_append, he]
     refine q0 _ ?_
     clear q0 Q0
     simp only [go_sem]
     simp only [↓bO, go_sem, seval, Tok.cells, rC, List.map_append, List.length_append, he]
     refine RCalls.at (k := 0) (fail_c l m s.i 0 true 3) ?_ (.tup .nil) rfl (by first | omega | (simp only; omega)) ?_
     · exact ⟨.ptr rfl, .v _, .v _, trivial⟩
     simp only [putO, Nat.reduceEqDiff, ↓reduceIte]
     rw [if_pos (by simp)]
     try simp only [bS, bA, thenQ, blockQ, noGotoQ]
     refine ⟨⟨s.f, s.ps, s.i, 3⟩, hs.form he hg h1 h2, by (simp only [he, if_true]; rw [if_neg (by decide)]; omega), ?_⟩
     try simp only [maskL, setsL, putsO, putO, mB, List.set_cons_zero, List.set_cons_succ, seval, List.map_append, bL, List.length_append, he]
     exact Weak.mk (by simp only [go_sem, Le.refl, Le.any, Le.slNil, Int.natCast_add, Int.cast_ofNat_Int, Int.natCast_one]) (fun _ _ h => h) rfl rfl
    ·
     have h2 : isT l s.i 4 bStar = true := by simpa using hb31
     simp only [h2, if_true]
     refine AWp_seqK fun Y1 y1 => ?_
     refine AWp_region ?_
     iterate 3 (refine aops_chunk 1 fun Q0 q0 => ?_; simp only [↓bO, go_sem, seval, Tok.cells, rC, List.map_append, List.length_append, he]; refine q0 _ ?_; clear q0 Q0; simp only [go_sem])
     simp only [↓bO, go_sem, seval, Tok.cells, rC, List.map_append, List.length_append, he]
     refine y1 _ ?_
     try clear y1 Y1
     refine AWp_cond rfl (fun hb37 => ?_) (fun hb37 => ?_)
     ·
      have h3 : s.ps.length = 8 := by (have h9 := hb37; simp at h9; omega)
      refine AWp_seqK fun Y1 y1 => ?_
      refine AWp_region ?_
      iterate 4 (refine aops_chunk 1 fun Q0 q0 => ?_; simp only [↓bO, go_sem, seval, Tok.cells, rC, List.map_append, List.length_append, he]; refine q0 _ ?_; clear q0 Q0; simp only [go_sem])
      simp only [↓bO, go_sem, seval, Tok.cells, rC, List.map_append, List.length_append, he]
      refine y1 _ ?_
      try clear y1 Y1
      refine AWp_region ?_
      refine aops_chunk 1 fun Q0 q0 => ?_
      simp only [↓bO, go_sem, seval, Tok.cells, rC, List.map_append, List.length_append, he]
      refine q0 _ ?_
      clear q0 Q0
      simp only [go_sem]
      simp only [↓bO, go_sem, seval, Tok.cells, rC, List.map_append, List.length_append, he]
      refine RCalls.at (k := 0) (fail_c l m s.i 0 true 6) ?_ (.tup .nil) rfl (by first | omega | (simp only; omega)) ?_
      · exact ⟨.ptr rfl, .v _, .v _, trivial⟩
      simp only [putO, Nat.reduceEqDiff, ↓reduceIte]
      rw [if_pos (by simp)]
      try simp only [bS, bA, thenQ, blockQ, noGotoQ]
      refine ⟨⟨s.f, s.ps, s.i, 6⟩, hs.many he hg h1 h2 h3, by (simp only [he, if_true]; rw [if_neg (by decide)]; omega), ?_⟩
      try simp only [maskL, setsL, putsO, putO, mB, List.set_cons_zero, List.set_cons_succ, seval, List.map_append, bL, List.length_append, he]
      exact Weak.mk (by simp only [go_sem, Le.refl, Le.any, Le.slNil, Int.natCast_add, Int.cast_ofNat_Int, Int.natCast_one]) (fun _ _ h => h) rfl rfl
     ·
      have h3 : ¬ s.ps.length = 8 := by (have h9 := hb37; simp at h9; omega)
      have hb1 : (s.ps.length + 1) * 40 ≤ 140737488355328 := by omega
      have hb2 : s.ps.length + 1 ≤ maxLen := by (simp only [maxLen]; omega)
      refine AWp_region ?_
      iterate 3 (refine aops_chunk 1 fun Q0 q0 => ?_; simp only [↓bO, go_sem, seval, Tok.cells, rC, List.map_append, List.length_append, he, hb1, hb2]; refine q0 _ ?_; clear q0 Q0; simp only [go_sem])
      refine aops_chunk 1 fun Q0 q0 => ?_
      simp only [↓bO, go_sem, seval, Tok.cells, rC, List.map_append, List.length_append, he, hb1, hb2]
      refine RCalls.at (k := 0) (ih g (by omega) (s.i + 1) lv (by have := lft_next h2; omega) hlv (by have := lft_next h2; have := lft_le (l := l) hs.2.2.1; omega)) ?_ (Ty.dataAgg _) rfl (by first | omega | (simp only; omega)) ?_
      · exact ⟨.ptr rfl, .v _, trivial⟩
      simp only [putO, Nat.reduceEqDiff, ↓reduceIte]
      try simp only [bS, bA, thenQ, blockQ, noGotoQ]
      refine q0 _ ?_
      clear q0 Q0
      simp only [go_sem]
      refine aops_chunk 1 fun Q0 q0 => ?_
      simp only [↓bO, go_sem, seval, ↓bs1_1, ↓bs1_2, ↓bs1_3, ↓bs1_4, ↓bs1_5, ↓bs1_6, ↓bs1_7, ↓bs1_8, ↓bs1_9, ↓bs1_10, ↓bs1_11, ↓bs1_12, Tok.cells, rC, List.map_append, List.length_append, he, hb1, hb2]
      refine q0 _ ?_
      clear q0 Q0
      simp only [go_sem]
      refine aops_chunk 1 fun Q0 q0 => ?_
      simp only [↓bO, go_sem, seval, Tok.cells, rC, List.map_append, List.length_append, he, hb1, hb2]
      refine q0 _ ?_
      clear q0 Q0
      simp only [go_sem]
      simp only [↓bO, go_sem, seval, Tok.cells, rC, List.map_append, List.length_append, he, hb1, hb2]
      refine ⟨⟨g, s.ps ++ [(rdP l m g none (s.i + 1) lv).1], (rdP l m g none (s.i + 1) lv).2.1, (rdP l m g none (s.i + 1) lv).2.2⟩, hs.next he hg h1 h2 h3, by (simp only [he, if_true]; split <;> omega), ?_⟩
      try simp only [maskL, setsL, putsO, putO, mB, List.set_cons_zero, List.set_cons_succ, seval, List.map_append, bL, List.length_append, he, hb1, hb2]
      exact Weak.mk (by simp only [go_sem, Le.refl, Le.any, Le.slNil, Int.natCast_add, Int.cast_ofNat_Int, Int.natCast_one]) (fun _ _ h => h) rfl rfl
  ·
   have he : ¬ s.e = 0 := by simpa using hb17
   refine AWp_exit ?_
   simp only [thenQ, blockQ, noGotoQ, bA, Nat.reduceEqDiff, ↓reduceIte]
   refine y0 _ ?_
   try clear y0 Y0
   refine AWp_seqK fun Y0 y0 => ?_
   refine AWp_seqK fun Y1 y1 => ?_
   refine AWp_region ?_
   iterate 2 (refine aops_chunk 1 fun Q0 q0 => ?_; simp only [↓bO, go_sem, seval, Tok.cells, rC]; refine q0 _ ?_; clear q0 Q0; simp only [go_sem])
   simp only [↓bO, go_sem, seval, Tok.cells, rC]
   refine y1 _ ?_
   try clear y1 Y1
   refine AWp_cond rfl (fun hb49 => ?_) (fun hb49 => ?_)
   ·
    obtain ⟨t1, hps, htp⟩ := tupP_one (ps := s.ps) (by have h9 := hb49; simp at h9; omega)
    simp only [hps, List.map_cons, List.map_nil]
    refine AWp_seqK fun Y1 y1 => ?_
    refine AWp_region ?_
    iterate 3 (refine aops_chunk 1 fun Q0 q0 => ?_; simp only [↓bO, go_sem, seval, Tok.cells, rC]; refine q0 _ ?_; clear q0 Q0; simp only [go_sem])
    simp only [↓bO, go_sem, seval, Tok.cells, rC]
    refine y1 _ ?_
    try clear y1 Y1
    refine AWp_ret ?_
    try simp only [thenQ, blockQ, noGotoQ, retQ, aRes, tupOf, bS, bA, aLoad, getO, pack, bL, Nat.reduceAdd, Nat.reduceLeDiff, Nat.reduceEqDiff, ↓reduceIte, ti25, tyX, Tok.cells, List.length_map, rC]
    rw [hs.stop he]
    refine ⟨_, _, ⟨rfl, rfl⟩, .data (Ty.dataAgg _), rUnd (by omega) _ _ _ _, ?_, ?_, by omega⟩
    · simp only [htp]; exact Le.refl _
    · exact ⟨2, rfl, rfl⟩
   ·
    have hln : ¬ s.ps.length = 1 := by (have h9 := hb49; simp at h9; omega)
    refine AWp_skip ?_
    try simp only [thenQ, blockQ, noGotoQ]
    refine y0 _ ?_
    try clear y0 Y0
    refine AWp_seqK fun Y0 y0 => ?_
    refine AWp_region ?_
    iterate 2 (refine aops_chunk 1 fun Q0 q0 => ?_; simp only [↓bO, go_sem, seval, Tok.cells, rC]; refine q0 _ ?_; clear q0 Q0; simp only [go_sem])
    simp only [↓bO, go_sem, seval, Tok.cells, rC]
    refine y0 _ ?_
    try clear y0 Y0
    refine AWp_ret ?_
    try simp only [thenQ, blockQ, noGotoQ, retQ, aRes, tupOf, bS, bA, aLoad, getO, pack, bL, Nat.reduceAdd, Nat.reduceLeDiff, Nat.reduceEqDiff, ↓reduceIte, ti25, tyX, Tok.cells, List.length_map, rC]
    rw [hs.stop he]
    refine ⟨_, _, ⟨rfl, rfl⟩, .data (Ty.dataAgg _), rUnd (by omega) _ _ _ _, ?_, ?_, by omega⟩
    · simp only [tupP_more hln]; rw [Ty.cells_eq]; exact Le.agg ⟨.refl _, .refl _, Le.osl _ _ _, trivial⟩
    · exact ⟨2, rfl, rfl⟩
theorem whole_s (l : List Tok) (m : Int) (hl : l.length ≤ 1048576) (f : Nat) (ih : ∀ g, g ≤ f → WholeOk l m g) (i lv : Int) (hi : lft l i < f + 1) (hlv : -1000000 ≤ lv) (hlv2 : lv + lft l i ≤ 1000000) : RCalls 26 [.ptr 0 0, .v (.int .i64 lv)] l m i 0 (.agg (rdP l m (f + 1) none i lv).1.cells) (rdP l m (f + 1) none i lv).2.1 (rdP l m (f + 1) none i lv).2.2 := by
  refine ACalls.clean (C := fun r os' => r = _ ∧ os' = _) ?_
  refine ACalls_intro Tryd.func26 (by kernel_rfl) rfl (by rw [Tryd.ntmps26]; simp) (fun hm => ?_)
  simp only [Tryd.ntmps26, Tryd.results26, List.length_cons, List.length_nil, Nat.reduceAdd, Nat.reduceSub, List.replicate_succ, List.replicate_zero, List.cons_append, List.nil_append]
  have hw0 : IntKind.i64.wrap (lv + 1) = lv + 1 := wrap_in (by omega) (by omega)
  refine AWp_seqK fun Y0 y0 => ?_
  refine AWp_region ?_
  simp only [↓bO, go_sem, seval, Tok.cells, rC]
  refine y0 _ ?_
  try clear y0 Y0
  refine AWp_seqK fun Y0 y0 => ?_
  refine AWp_region ?_
  iterate 7 (refine aops_chunk 1 fun Q0 q0 => ?_; simp only [↓bO, go_sem, seval, Tok.cells, rC]; refine q0 _ ?_; clear q0 Q0; simp only [go_sem])
  simp only [↓bO, go_sem, seval, Tok.cells, rC]
  obtain ⟨e0, hE⟩ : ∃ e0, (if decide (lv > m) = true ∧ (0 : Int) = 0 then (4 : Int) else 0) = e0 := ⟨_, rfl⟩
  have hf := fail_c l m i 0 (decide (lv > m)) 4
  rw [hE] at hf
  refine RCalls.at (k := 0) (hf) ?_ (.tup .nil) rfl (by first | omega | (simp only; omega)) ?_
  · exact ⟨.ptr rfl, .v _, .v _, trivial⟩
  simp only [putO, Nat.reduceEqDiff, ↓reduceIte]
  try simp only [bS, bA, thenQ, blockQ, noGotoQ]
  refine y0 _ ?_
  try clear y0 Y0
  refine AWp_seqK fun Y0 y0 => ?_
  refine AWp_region ?_
  iterate 2 (refine aops_chunk 1 fun Q0 q0 => ?_; simp only [↓bO, go_sem, seval, Tok.cells, rC]; refine q0 _ ?_; clear q0 Q0; simp only [go_sem])
  simp only [↓bO, go_sem, seval, Tok.cells, rC]
  refine y0 _ ?_
  try clear y0 Y0
  refine AWp_joinE (σ := Ty × Int × Int) (mB 58 51) (fun j => []) (fun j => [(2, .cells 25 j.1.cells), (0, .cells 65 (rC l m j.2.1 j.2.2))]) (fun j => ¬ m < lv ∧ bsP l m f i lv = j) ?_ (fun j hj => ?_)
  ·
   refine AWp_block ?_
   refine AWp_weak (Weak.recell (id := 2) (t := 25) [.v (.int .i64 0), .v (.int .i64 0), .sl 3 []] rfl ⟨.refl _, .refl _, Le.slNil 3, trivial⟩) ?_
   simp only [putO, Nat.reduceEqDiff, ↓reduceIte]
   refine AWp_seqK fun Y0 y0 => ?_
   refine AWp_region ?_
   iterate 5 (refine aops_chunk 1 fun Q0 q0 => ?_; simp only [↓bO, go_sem, seval, Tok.cells, rC]; refine q0 _ ?_; clear q0 Q0; simp only [go_sem])
   simp only [↓bO, go_sem, seval, Tok.cells, rC]
   refine y0 _ ?_
   try clear y0 Y0
   refine AWp_cond rfl (fun hb17 => ?_) (fun hb17 => ?_)
   ·
    obtain ⟨hd, rfl⟩ : m < lv ∧ e0 = 4 := (deep_e hE).resolve_right fun h => by simp [h.2] at hb17
    refine AWp_seqK fun Y0 y0 => ?_
    refine AWp_region ?_
    refine aops_chunk 1 fun Q0 q0 => ?_
    simp only [↓bO, go_sem, seval, Tok.cells, rC]
    refine q0 _ ?_
    clear q0 Q0
    simp only [go_sem]
    simp only [↓bO, go_sem, seval, Tok.cells, rC]
    refine y0 _ ?_
    try clear y0 Y0
    refine AWp_ret ?_
    try simp only [thenQ, blockQ, noGotoQ, retQ, aRes, tupOf, bS, bA, aLoad, getO, pack, bL, Nat.reduceAdd, Nat.reduceLeDiff, Nat.reduceEqDiff, ↓reduceIte, ti25, tyX, Tok.cells, List.length_map, rC]
    rw [rdP_none, if_pos hd]
    refine ⟨_, _, ⟨rfl, rfl⟩, .data (Ty.dataAgg _), rUnd (by omega) _ _ _ _, ?_, ?_, by omega⟩
    · first | exact Le.refl _ | (simp only [zTy, Ty.cells_eq, Ty.k, Ty.n, Ty.ps, List.map_cons, List.map_nil]; exact Le.refl _)
    · exact ⟨2, rfl, rfl⟩
   ·
    obtain ⟨hd, rfl⟩ : ¬ m < lv ∧ e0 = 0 := (deep_e hE).resolve_left fun h => by simp [h.2] at hb17
    refine AWp_seqK fun Y0 y0 => ?_
    refine AWp_region ?_
    refine aops_chunk 1 fun Q0 q0 => ?_
    simp only [↓bO, go_sem, seval, Tok.cells, rC, hw0]
    refine q0 _ ?_
    clear q0 Q0
    simp only [go_sem]
    refine aops_chunk 1 fun Q0 q0 => ?_
    simp only [↓bO, go_sem, seval, Tok.cells, rC, hw0]
    refine RCalls.at (k := 0) (sign_c l m i 0 3 bInt hl) ?_ (.v _) rfl (by first | omega | (simp only; omega)) ?_
    · exact ⟨.ptr rfl, .v _, .v _, trivial⟩
    simp only [putO, Nat.reduceEqDiff, ↓reduceIte]
    try simp only [bS, bA, thenQ, blockQ, noGotoQ]
    refine q0 _ ?_
    clear q0 Q0
    simp only [go_sem]
    simp only [↓bO, go_sem, seval, Tok.cells, rC, hw0]
    refine y0 _ ?_
    try clear y0 Y0
    refine AWp_cond rfl (fun hb24 => ?_) (fun hb24 => ?_)
    ·
     have hA : isT l i 3 bInt = true := hb24
     simp only [hA, if_true]
     have hbs : bsP l m f i lv = (.mk 2 0 [], i + 1, 0) := by (unfold bsP; rw [if_pos hA])
     refine AWp_region ?_
     refine aops_chunk 1 fun Q0 q0 => ?_
     simp only [↓bO, go_sem, seval, Tok.cells, rC, hw0]
     refine q0 _ ?_
     clear q0 Q0
     simp only [go_sem]
     simp only [↓bO, go_sem, seval, Tok.cells, rC, hw0]
     try simp only [maskL, setsL, putsO, putO, mB, List.set_cons_zero, List.set_cons_succ, seval]
     refine ⟨(bsP l m f i lv), ⟨hd, rfl⟩, ?_⟩
     rw [hbs]
     try simp only [zTy, Ty.cells_eq (Ty.mk 0 0 []), Ty.cells_eq (Ty.mk 2 0 []), Ty.cells_eq (Ty.mk 3 0 []), Ty.k, Ty.n, Ty.ps, List.map_nil]
     exact Weak.mk (by simp only [go_sem, Le.refl, Le.any]) (fun _ _ h => h) rfl rfl
    ·
     have hA : isT l i 3 bInt = false := hb24
     simp only [hA, Bool.false_eq_true, if_false]
     refine AWp_seqK fun Y0 y0 => ?_
     refine AWp_region ?_
     refine aops_chunk 1 fun Q0 q0 => ?_
     simp only [↓bO, go_sem, seval, Tok.cells, rC, hw0]
     refine q0 _ ?_
     clear q0 Q0
     simp only [go_sem]
     refine aops_chunk 1 fun Q0 q0 => ?_
     simp only [↓bO, go_sem, seval, Tok.cells, rC, hw0]
     refine RCalls.at (k := 0) (sign_c l m i 0 3 bBool hl) ?_ (.v _) rfl (by first | omega | (simp only; omega)) ?_
     · exact ⟨.ptr rfl, .v _, .v _, trivial⟩
     simp only [putO, Nat.reduceEqDiff, ↓reduceIte]
     try simp only [bS, bA, thenQ, blockQ, noGotoQ]
     refine q0 _ ?_
     clear q0 Q0
     simp only [go_sem]
     simp only [↓bO, go_sem, seval, Tok.cells, rC, hw0]
     refine y0 _ ?_
     try clear y0 Y0
     refine AWp_cond rfl (fun hb28 => ?_) (fun hb28 => ?_)
     ·
      have hB : isT l i 3 bBool = true := hb28
      simp only [hB, if_true]
      have hbs : bsP l m f i lv = (.mk 3 0 [], i + 1, 0) := by (unfold bsP; rw [if_neg (by simp [hA]), if_pos hB])
      refine AWp_region ?_
      refine aops_chunk 1 fun Q0 q0 => ?_
      simp only [↓bO, go_sem, seval, Tok.cells, rC, hw0]
      refine q0 _ ?_
      clear q0 Q0
      simp only [go_sem]
      simp only [↓bO, go_sem, seval, Tok.cells, rC, hw0]
      try simp only [maskL, setsL, putsO, putO, mB, List.set_cons_zero, List.set_cons_succ, seval]
      refine ⟨(bsP l m f i lv), ⟨hd, rfl⟩, ?_⟩
      rw [hbs]
      try simp only [zTy, Ty.cells_eq (Ty.mk 0 0 []), Ty.cells_eq (Ty.mk 2 0 []), Ty.cells_eq (Ty.mk 3 0 []), Ty.k, Ty.n, Ty.ps, List.map_nil]
      exact Weak.mk (by simp only [go_sem, Le.refl, Le.any]) (fun _ _ h => h) rfl rfl
     ·
      have hB : isT l i 3 bBool = false := hb28
      simp only [hB, Bool.false_eq_true, if_false]
      refine AWp_seqK fun Y0 y0 => ?_
      refine AWp_region ?_
      refine aops_chunk 1 fun Q0 q0 => ?_
      simp only [↓bO, go_sem, seval, Tok.cells, rC, hw0]
      refine q0 _ ?_
      clear q0 Q0
      simp only [go_sem]
      refine aops_chunk 1 fun Q0 q0 => ?_
      simp only [↓bO, go_sem, seval, Tok.cells, rC, hw0]
      refine RCalls.at (k := 0) (sign_c l m i 0 4 bOpen hl) ?_ (.v _) rfl (by first | omega | (simp only; omega)) ?_
      · exact ⟨.ptr rfl, .v _, .v _, trivial⟩
      simp only [putO, Nat.reduceEqDiff, ↓reduceIte]
      try simp only [bS, bA, thenQ, blockQ, noGotoQ]
      refine q0 _ ?_
      clear q0 Q0
      simp only [go_sem]
      simp only [↓bO, go_sem, seval, Tok.cells, rC, hw0]
      refine y0 _ ?_
      try clear y0 Y0
      refine AWp_cond rfl (fun hb32 => ?_) (fun hb32 => ?_)
      ·
       have hC : isT l i 4 bOpen = true := hb32
       simp only [hC, if_true]
       have hbs : bsP l m f i lv = lsP l m f (i + 1) (lv + 1) := by (unfold bsP; rw [if_neg (by simp [hA]), if_neg (by simp [hB]), if_pos hC])
       have hC2 := lft_next hC
       refine AWp_region ?_
       iterate 5 (refine aops_chunk 1 fun Q0 q0 => ?_; simp only [↓bO, go_sem, seval, Tok.cells, rC, hw0]; refine q0 _ ?_; clear q0 Q0; simp only [go_sem])
       refine aops_chunk 1 fun Q0 q0 => ?_
       simp only [↓bO, go_sem, seval, Tok.cells, rC, hw0]
       refine RCalls.at (k := 0) (list_c l m f hl ih (i + 1) (lv + 1) (by omega) (by omega) (by omega)) ?_ (Ty.dataAgg _) rfl (by first | omega | (simp only; omega)) ?_
       · exact ⟨.ptr rfl, .v _, .mth ⟨.ptr rfl, trivial⟩, trivial⟩
       simp only [putO, Nat.reduceEqDiff, ↓reduceIte]
       try simp only [bS, bA, thenQ, blockQ, noGotoQ]
       refine q0 _ ?_
       clear q0 Q0
       simp only [go_sem]
       simp only [↓bO, go_sem, seval, Tok.cells, rC, hw0]
       try simp only [maskL, setsL, putsO, putO, mB, List.set_cons_zero, List.set_cons_succ, seval]
       refine ⟨(bsP l m f i lv), ⟨hd, rfl⟩, ?_⟩
       rw [hbs]
       try simp only [zTy, Ty.cells_eq (Ty.mk 0 0 []), Ty.cells_eq (Ty.mk 2 0 []), Ty.cells_eq (Ty.mk 3 0 []), Ty.k, Ty.n, Ty.ps, List.map_nil]
       exact Weak.mk (by simp only [go_sem, Le.refl, Le.any]) (fun _ _ h => h) rfl rfl
      ·
       have hC : isT l i 4 bOpen = false := hb32
       simp only [hC, Bool.false_eq_true, if_false]
       have hbs : bsP l m f i lv = (zTy, i, 3) := by (unfold bsP; rw [if_neg (by simp [hA]), if_neg (by simp [hB]), if_neg (by simp [hC])])
       refine AWp_region ?_
       refine aops_chunk 1 fun Q0 q0 => ?_
       simp only [↓bO, go_sem, seval, Tok.cells, rC, hw0]
       refine q0 _ ?_
       clear q0 Q0
       simp only [go_sem]
       simp only [↓bO, go_sem, seval, Tok.cells, rC, hw0]
       refine RCalls.at (k := 0) (fail_c l m i 0 true 3) ?_ (.tup .nil) rfl (by first | omega | (simp only; omega)) ?_
       · exact ⟨.ptr rfl, .v _, .v _, trivial⟩
       simp only [putO, Nat.reduceEqDiff, ↓reduceIte]
       rw [if_pos (by simp)]
       try simp only [bS, bA, thenQ, blockQ, noGotoQ]
       try simp only [maskL, setsL, putsO, putO, mB, List.set_cons_zero, List.set_cons_succ, seval]
       refine ⟨(bsP l m f i lv), ⟨hd, rfl⟩, ?_⟩
       rw [hbs]
       try simp only [zTy, Ty.cells_eq (Ty.mk 0 0 []), Ty.cells_eq (Ty.mk 2 0 []), Ty.cells_eq (Ty.mk 3 0 []), Ty.k, Ty.n, Ty.ps, List.map_nil]
       exact Weak.mk (by simp only [go_sem, Le.refl, Le.any]) (fun _ _ h => h) rfl rfl
  simp only [maskL, setsL, putsO, putO, mB, List.set_cons_zero, List.set_cons_succ, seval]
  obtain ⟨hd, hj⟩ := hj
  have hjm : lft l j.2.1 ≤ lft l i := lft_le (by rw [← hj]; exact bsP_mono _ _ _ _ _)
  refine AWp_seqK fun Y0 y0 => ?_
  refine AWp_seqK fun Y1 y1 => ?_
  refine AWp_region ?_
  iterate 6 (refine aops_chunk 1 fun Q0 q0 => ?_; simp only [↓bO, go_sem, seval, Tok.cells, rC]; refine q0 _ ?_; clear q0 Q0; simp only [go_sem])
  refine aops_case 46 rfl (fun hc46 => ?_) (fun hc46 => ?_)
  ·
   simp only [List.set_cons_zero, List.set_cons_succ]
   have hj0 : j.2.2 = 0 := by simpa using hc46
   simp only [hj0]
   refine aops_chunk 1 fun Q0 q0 => ?_
   simp only [↓bO, go_sem, seval, Tok.cells, rC, hj0]
   refine q0 _ ?_
   clear q0 Q0
   simp only [go_sem]
   refine aops_chunk 1 fun Q0 q0 => ?_
   simp only [↓bO, go_sem, seval, Tok.cells, rC, hj0]
   refine RCalls.at (k := 0) (sign_c l m j.2.1 0 4 bArrow hl) ?_ (.v _) rfl (by first | omega | (simp only; omega)) ?_
   · exact ⟨.ptr rfl, .v _, .v _, trivial⟩
   simp only [putO, Nat.reduceEqDiff, ↓reduceIte]
   try simp only [bS, bA, thenQ, blockQ, noGotoQ]
   refine q0 _ ?_
   clear q0 Q0
   simp only [go_sem]
   simp only [↓bO, go_sem, seval, Tok.cells, rC, hj0]
   refine y1 _ ?_
   try clear y1 Y1
   refine AWp_cond rfl (fun hb49 => ?_) (fun hb49 => ?_)
   ·
    have hD : isT l j.2.1 4 bArrow = true := hb49
    simp only [hD, if_true]
    refine AAny_start [] 8 rfl mixed (trivial) rfl ?_
    dsimp only
    refine AAny_takeK 1 rfl (by kernel_rfl) (by kernel_rfl) (by kernel_rfl) (fun _ _ h => h) fun Q0 q0 => ?_
    simp only [↓bO, go_sem, seval, Tok.cells, rC, hj0, hw0]
    refine q0 _ ?_
    clear q0 Q0
    refine AAny_takeK 2 rfl (by kernel_rfl) (by kernel_rfl) (by kernel_rfl) (fun _ _ h => h) fun Q0 q0 => ?_
    simp only [↓bO, go_sem, seval, Tok.cells, rC, hj0, hw0]
    refine q0 _ ?_
    clear q0 Q0
    refine AAny_takeI 3 rfl rfl (by kernel_rfl) (by kernel_rfl) (by kernel_rfl) (fun _ _ h => h) fun Q0 q0 => ?_
    simp only [↓bO, go_sem, seval, aInt, Tok.cells, rC, hj0, hw0]
    refine q0 _ ?_
    clear q0 Q0
    refine AAny_all2 (i := 0) (j := 4) (by kernel_rfl) ?_ ?_
    ·
     refine aAt_op rfl rfl fun Q0 q0 => ?_
     simp only [↓bO, go_sem, seval, Tok.cells, rC, hj0, hw0]
     refine q0 _ ⟨trivial, ?_⟩
     clear q0 Q0
     refine AAny_all1 (i := 4) (by kernel_rfl) ?_
     ·
      refine aAt_op rfl rfl fun Q0 q0 => ?_
      simp only [↓bO, go_sem, seval, Tok.cells, rC, hj0, hw0]
      refine RCalls.at (k := 0) (ih f (Nat.le_refl f) (j.2.1 + 1) (lv + 1) (by have := lft_next hD; omega) (by omega) (by have := lft_next hD; omega)) ?_ (Ty.dataAgg _) rfl (by first | omega | (simp only; omega)) ?_
      · exact ⟨.ptr rfl, .v _, trivial⟩
      simp only [putO, Nat.reduceEqDiff, ↓reduceIte]
      try simp only [bS, bA]
      refine q0 _ ⟨trivial, ?_⟩
      clear q0 Q0
      refine AAny_all1 (i := 5) (by kernel_rfl) ?_
      ·
       refine aAt_op rfl rfl fun Q0 q0 => ?_
       simp only [↓bO, go_sem, seval, ↓bs2_1, ↓bs2_2, ↓bs2_3, ↓bs2_4, ↓bs2_5, ↓bs2_6, ↓bs2_7, ↓bs2_8, ↓bs2_9, ↓bs2_10, ↓bs2_11, ↓bs2_12, Tok.cells, rC, hj0, hw0]
       refine q0 _ ⟨trivial, ?_⟩
       clear q0 Q0
       refine AAny_all1 (i := 6) (by kernel_rfl) ?_
       ·
        refine aAt_op rfl rfl fun Q0 q0 => ?_
        simp only [↓bO, go_sem, seval, Tok.cells, rC, hj0, hw0]
        refine q0 _ ⟨trivial, ?_⟩
        clear q0 Q0
        refine AAny_all1 (i := 7) (by kernel_rfl) ?_
        ·
         refine aAt_op rfl rfl fun Q0 q0 => ?_
         simp only [↓bO, go_sem, seval, Tok.cells, rC, hj0, hw0]
         refine q0 _ ⟨trivial, ?_⟩
         clear q0 Q0
         refine AAny_done (by kernel_rfl) ?_
         simp only [thenQ, blockQ, noGotoQ]
         refine y0 _ ?_
         try clear y0 Y0
         refine AWp_seqK fun Y0 y0 => ?_
         refine AWp_region ?_
         refine aops_chunk 1 fun Q0 q0 => ?_
         simp only [↓bO, go_sem, seval, Tok.cells, rC, hj0]
         refine q0 _ ?_
         clear q0 Q0
         simp only [go_sem]
         simp only [↓bO, go_sem, seval, Tok.cells, rC, hj0]
         refine y0 _ ?_
         try clear y0 Y0
         refine AWp_ret ?_
         try simp only [thenQ, blockQ, noGotoQ, retQ, aRes, tupOf, bS, bA, aLoad, getO, pack, bL, Nat.reduceAdd, Nat.reduceLeDiff, Nat.reduceEqDiff, ↓reduceIte, ti25, tyX, Tok.cells, List.length_map, rC, hj0]
         rw [rdP_none, if_neg hd, hj]
         rw [arP, if_pos hj0, if_pos hD]
         refine ⟨_, _, ⟨rfl, rfl⟩, .data (Ty.dataAgg _), rUnd (by omega) _ _ _ _, ?_, ?_, by omega⟩
         · first | exact Le.refl _ | (simp only [zTy, Ty.cells_eq, Ty.k, Ty.n, Ty.ps, List.map_cons, List.map_nil]; exact Le.refl _)
         · exact ⟨2, rfl, rfl⟩
    ·
     refine aAt_op rfl rfl fun Q0 q0 => ?_
     simp only [↓bO, go_sem, seval, Tok.cells, rC, hj0, hw0]
     refine RCalls.at (k := 0) (ih f (Nat.le_refl f) (j.2.1 + 1) (lv + 1) (by have := lft_next hD; omega) (by omega) (by have := lft_next hD; omega)) ?_ (Ty.dataAgg _) rfl (by first | omega | (simp only; omega)) ?_
     · exact ⟨.ptr rfl, .v _, trivial⟩
     simp only [putO, Nat.reduceEqDiff, ↓reduceIte]
     try simp only [bS, bA]
     refine q0 _ ⟨trivial, ?_⟩
     clear q0 Q0
     refine AAny_all1 (i := 0) (by kernel_rfl) ?_
     ·
      refine aAt_op rfl rfl fun Q0 q0 => ?_
      simp only [↓bO, go_sem, seval, Tok.cells, rC, hj0, hw0]
      refine q0 _ ⟨trivial, ?_⟩
      clear q0 Q0
      refine AAny_all1 (i := 5) (by kernel_rfl) ?_
      ·
       refine aAt_op rfl rfl fun Q0 q0 => ?_
       simp only [↓bO, go_sem, seval, ↓bs2_1, ↓bs2_2, ↓bs2_3, ↓bs2_4, ↓bs2_5, ↓bs2_6, ↓bs2_7, ↓bs2_8, ↓bs2_9, ↓bs2_10, ↓bs2_11, ↓bs2_12, Tok.cells, rC, hj0, hw0]
       refine q0 _ ⟨trivial, ?_⟩
       clear q0 Q0
       refine AAny_all1 (i := 6) (by kernel_rfl) ?_
       ·
        refine aAt_op rfl rfl fun Q0 q0 => ?_
        simp only [↓bO, go_sem, seval, Tok.cells, rC, hj0, hw0]
        refine q0 _ ⟨trivial, ?_⟩
        clear q0 Q0
        refine AAny_all1 (i := 7) (by kernel_rfl) ?_
        ·
         refine aAt_op rfl rfl fun Q0 q0 => ?_
         simp only [↓bO, go_sem, seval, Tok.cells, rC, hj0, hw0]
         refine q0 _ ⟨trivial, ?_⟩
         clear q0 Q0
         refine AAny_done (by kernel_rfl) ?_
         simp only [thenQ, blockQ, noGotoQ]
         refine y0 _ ?_
         try clear y0 Y0
         refine AWp_seqK fun Y0 y0 => ?_
         refine AWp_region ?_
         refine aops_chunk 1 fun Q0 q0 => ?_
         simp only [↓bO, go_sem, seval, Tok.cells, rC, hj0]
         refine q0 _ ?_
         clear q0 Q0
         simp only [go_sem]
         simp only [↓bO, go_sem, seval, Tok.cells, rC, hj0]
         refine y0 _ ?_
         try clear y0 Y0
         refine AWp_ret ?_
         try simp only [thenQ, blockQ, noGotoQ, retQ, aRes, tupOf, bS, bA, aLoad, getO, pack, bL, Nat.reduceAdd, Nat.reduceLeDiff, Nat.reduceEqDiff, ↓reduceIte, ti25, tyX, Tok.cells, List.length_map, rC, hj0]
         rw [rdP_none, if_neg hd, hj]
         rw [arP, if_pos hj0, if_pos hD]
         refine ⟨_, _, ⟨rfl, rfl⟩, .data (Ty.dataAgg _), rUnd (by omega) _ _ _ _, ?_, ?_, by omega⟩
         · first | exact Le.refl _ | (simp only [zTy, Ty.cells_eq, Ty.k, Ty.n, Ty.ps, List.map_cons, List.map_nil]; exact Le.refl _)
         · exact ⟨2, rfl, rfl⟩
   ·
    have hD : isT l j.2.1 4 bArrow = false := hb49
    simp only [hD, Bool.false_eq_true, if_false]
    refine AWp_skip ?_
    try simp only [thenQ, blockQ, noGotoQ]
    refine y0 _ ?_
    try clear y0 Y0
    refine AWp_seqK fun Y0 y0 => ?_
    refine AWp_region ?_
    refine aops_chunk 1 fun Q0 q0 => ?_
    simp only [↓bO, go_sem, seval, Tok.cells, rC, hj0]
    refine q0 _ ?_
    clear q0 Q0
    simp only [go_sem]
    simp only [↓bO, go_sem, seval, Tok.cells, rC, hj0]
    refine y0 _ ?_
    try clear y0 Y0
    refine AWp_ret ?_
    try simp only [thenQ, blockQ, noGotoQ, retQ, aRes, tupOf, bS, bA, aLoad, getO, pack, bL, Nat.reduceAdd, Nat.reduceLeDiff, Nat.reduceEqDiff, ↓reduceIte, ti25, tyX, Tok.cells, List.length_map, rC, hj0]
    rw [rdP_none, if_neg hd, hj]
    rw [arP, if_pos hj0, if_neg (by simp [hD]), hj0]
    refine ⟨_, _, ⟨rfl, rfl⟩, .data (Ty.dataAgg _), rUnd (by omega) _ _ _ _, ?_, ?_, by omega⟩
    · first | exact Le.refl _ | (simp only [zTy, Ty.cells_eq, Ty.k, Ty.n, Ty.ps, List.map_cons, List.map_nil]; exact Le.refl _)
    · exact ⟨2, rfl, rfl⟩
  ·
   simp only [List.set_cons_zero, List.set_cons_succ]
   have hj0 : ¬ j.2.2 = 0 := by simpa using hc46
   iterate 2 (refine aops_chunk 1 fun Q0 q0 => ?_; simp only [↓bO, go_sem, seval, Tok.cells, rC]; refine q0 _ ?_; clear q0 Q0; simp only [go_sem])
   simp only [↓bO, go_sem, seval, Tok.cells, rC]
   refine y1 _ ?_
   try clear y1 Y1
   refine AWp_cond (b := false) (by first | exact rfl | exact congrArg (fun b => AV.v (.bool b)) hb49) (fun h => (by cases h)) (fun _ => ?_)
   refine AWp_skip ?_
   try simp only [thenQ, blockQ, noGotoQ]
   refine y0 _ ?_
   try clear y0 Y0
   refine AWp_seqK fun Y0 y0 => ?_
   refine AWp_region ?_
   refine aops_chunk 1 fun Q0 q0 => ?_
   simp only [↓bO, go_sem, seval, Tok.cells, rC]
   refine q0 _ ?_
   clear q0 Q0
   simp only [go_sem]
   simp only [↓bO, go_sem, seval, Tok.cells, rC]
   refine y0 _ ?_
   try clear y0 Y0
   refine AWp_ret ?_
   try simp only [thenQ, blockQ, noGotoQ, retQ, aRes, tupOf, bS, bA, aLoad, getO, pack, bL, Nat.reduceAdd, Nat.reduceLeDiff, Nat.reduceEqDiff, ↓reduceIte, ti25, tyX, Tok.cells, List.length_map, rC]
   rw [rdP_none, if_neg hd, hj]
   rw [arP, if_neg hj0]
   refine ⟨_, _, ⟨rfl, rfl⟩, .data (Ty.dataAgg _), rUnd (by omega) _ _ _ _, ?_, ?_, by omega⟩
   · first | exact Le.refl _ | (simp only [zTy, Ty.cells_eq, Ty.k, Ty.n, Ty.ps, List.map_cons, List.map_nil]; exact Le.refl _)
   · exact ⟨2, rfl, rfl⟩
theorem whole_c (l : List Tok) (m : Int) (hl : l.length ≤ 1048576) : ∀ f, WholeOk l m f := by
  intro f
  induction f using Nat.strongRecOn with
  | _ f ih =>
    intro i lv hi hlv hlv2
    match f, ih, hi with
    | 0, _, hi => omega
    | f + 1, ih, hi => exact whole_s l m hl f (fun g hg => ih g (by omega)) i lv hi hlv hlv2
theorem zTy_le : Le (.agg [.v (.int .i64 0), .v (.int .i64 0), .v (.slice none 0 0)]) (.agg zTy.cells) := by
  rw [zTy, Ty.cells_eq]; exact Le.agg ⟨.refl _, .refl _, Le.slNil 3, trivial⟩
abbrev rdF (l : List Tok) (m i lv : Int) : Ty × Int × Int := rd l m (l.length + 1) none i lv
theorem rdF_lt (l : List Tok) (i : Int) : lft l i < l.length + 1 := by have := lft_len l i; omega
theorem rdP_eq {l : List Tok} {m : Int} {f : Nat} {i lv : Int} (h : (rdP l m f none i lv).2.2 = 0) : rdP l m f none i lv = rd l m f none i lv :=
  (rdP_rd l m f none i lv (fun ps h => by cases h)).2 (by rw [← rdP_pos]; exact h)
theorem Ty.sameL_refl : ∀ ps : List Ty, (∀ p ∈ ps, p.same p = true) → Ty.sameL ps ps = true := fun ps h => by
  induction ps with
  | nil => rfl
  | cons p ps ih => rw [Ty.sameL, h p (by simp), ih fun q hq => h q (by simp [hq])]; rfl
theorem Ty.same_refl : ∀ t : Ty, t.same t = true := by
  refine Ty.ind fun t ih => ?_
  cases t with
  | mk k n ps => rw [Ty.same, Ty.sameL_refl ps ih]; simp
theorem Read_pure (l : List Tok) (m i lv : Int) (hl : l.length ≤ 100000) (hlv : -1000000 ≤ lv) (hlv2 : lv ≤ 800000) : APure Tryd.prog 15 [.sl 4 (l.map Tok.cells), .v (.int .i64 i), .v (.int .i64 lv), .v (.int .i64 m)] (.tup [.agg (rdF l m i lv).1.cells, .v (.int .i64 (rdF l m i lv).2.1), .v (.int .i64 (rdF l m i lv).2.2)]) := by
  refine APure.mkL (.cons (Tok.dataSl l) (.cons (.v _) (.cons (.v _) (.cons (.v _) .nil)))) (.tup (.cons (Ty.dataAgg _) (.cons (.v _) (.cons (.v _) .nil)))) ?_
  refine ACalls_intro Tryd.func15 (by kernel_rfl) rfl (by rw [Tryd.ntmps15]; simp) (fun hm => ?_)
  simp only [Tryd.ntmps15, Tryd.results15, List.length_cons, List.length_nil, Nat.reduceAdd, Nat.reduceSub, List.replicate_succ, List.replicate_zero, List.cons_append, List.nil_append]
  refine AWp_seqK fun Y0 y0 => ?_
  refine AWp_region ?_
  iterate 2 (refine aops_chunk 1 fun Q0 q0 => ?_; simp only [↓bO, go_sem, seval, Tok.cells, rC]; refine q0 _ ?_; clear q0 Q0; simp only [go_sem])
  simp only [↓bO, go_sem, seval, Tok.cells, rC]
  refine y0 _ ?_
  try clear y0 Y0
  refine AWp_seqK fun Y0 y0 => ?_
  refine AWp_region ?_
  iterate 5 (refine aops_chunk 1 fun Q0 q0 => ?_; simp only [↓bO, go_sem, seval, Tok.cells, rC]; refine q0 _ ?_; clear q0 Q0; simp only [go_sem])
  simp only [↓bO, go_sem, seval, Tok.cells, rC]
  refine y0 _ ?_
  try clear y0 Y0
  refine AWp_seqK fun Y0 y0 => ?_
  refine AWp_region ?_
  iterate 2 (refine aops_chunk 1 fun Q0 q0 => ?_; simp only [↓bO, go_sem, seval, Tok.cells, rC]; refine q0 _ ?_; clear q0 Q0; simp only [go_sem])
  refine aops_chunk 1 fun Q0 q0 => ?_
  simp only [↓bO, go_sem, seval, Tok.cells, rC]
  refine RCalls.at (k := 1) (whole_c l m (by omega) (l.length + 1) i lv (rdF_lt l i) hlv (by have := lft_len l i; omega)) ?_ (Ty.dataAgg _) rfl (by first | omega | (simp only; omega)) ?_
  · exact ⟨.ptr rfl, .v _, trivial⟩
  simp only [putO, Nat.reduceEqDiff, ↓reduceIte]
  try simp only [bS, bA, thenQ, blockQ, noGotoQ]
  refine q0 _ ?_
  clear q0 Q0
  simp only [go_sem]
  refine aops_chunk 1 fun Q0 q0 => ?_
  simp only [↓bO, go_sem, seval, Tok.cells, rC]
  refine q0 _ ?_
  clear q0 Q0
  simp only [go_sem]
  simp only [↓bO, go_sem, seval, Tok.cells, rC]
  refine y0 _ ?_
  try clear y0 Y0
  refine AWp_seqK fun Y0 y0 => ?_
  refine AWp_seqK fun Y1 y1 => ?_
  refine AWp_region ?_
  iterate 4 (refine aops_chunk 1 fun Q0 q0 => ?_; simp only [↓bO, go_sem, seval, Tok.cells, rC]; refine q0 _ ?_; clear q0 Q0; simp only [go_sem])
  simp only [↓bO, go_sem, seval, Tok.cells, rC]
  refine y1 _ ?_
  try clear y1 Y1
  refine AWp_cond rfl (fun hb25 => ?_) (fun hb25 => ?_)
  ·
   have he : ¬ (rdP l m (l.length + 1) none i lv).2.2 = 0 := by simpa using hb25
   refine AWp_seqK fun Y1 y1 => ?_
   refine AAny_start [(1, 1, [.v (.int .i64 (rdP l m (l.length + 1) none i lv).2.1)]), (1, 3, [.v (.int .i64 (rdP l m (l.length + 1) none i lv).2.2)])] 12 rfl mixed (⟨⟨_, _, rfl, by simp, rfl, trivial, trivial⟩, ⟨⟨_, _, rfl, by simp, rfl, trivial, trivial⟩, trivial⟩⟩) rfl ?_
   dsimp only
   refine AAny_takeK 1 rfl (by kernel_rfl) (by kernel_rfl) (by kernel_rfl) (fun _ _ h => h) fun Q0 q0 => ?_
   simp only [↓bO, go_sem, seval, Tok.cells, rC]
   refine q0 _ ?_
   clear q0 Q0
   refine AAny_takeK 2 rfl (by kernel_rfl) (by kernel_rfl) (by kernel_rfl) (fun _ _ h => h) fun Q0 q0 => ?_
   simp only [↓bO, go_sem, seval, Tok.cells, rC]
   refine q0 _ ?_
   clear q0 Q0
   refine AAny_takeK 3 rfl (by kernel_rfl) (by kernel_rfl) (by kernel_rfl) (fun _ _ h => h) fun Q0 q0 => ?_
   simp only [↓bO, go_sem, seval, Tok.cells, rC]
   refine q0 _ ?_
   clear q0 Q0
   refine AAny_loadK 4 0 rfl rfl (by kernel_rfl) (by kernel_rfl) (by kernel_rfl) (fun _ _ h => h) fun Q0 q0 => ?_
   simp only [↓bO, go_sem, seval, Tok.cells, rC]
   refine q0 _ ?_
   clear q0 Q0
   refine AAny_takeK 5 rfl (by kernel_rfl) (by kernel_rfl) (by kernel_rfl) (fun _ _ h => h) fun Q0 q0 => ?_
   simp only [↓bO, go_sem, seval, Tok.cells, rC]
   refine q0 _ ?_
   clear q0 Q0
   refine AAny_takeK 6 rfl (by kernel_rfl) (by kernel_rfl) (by kernel_rfl) (fun _ _ h => h) fun Q0 q0 => ?_
   simp only [↓bO, go_sem, seval, Tok.cells, rC]
   refine q0 _ ?_
   clear q0 Q0
   refine AAny_takeK 7 rfl (by kernel_rfl) (by kernel_rfl) (by kernel_rfl) (fun _ _ h => h) fun Q0 q0 => ?_
   simp only [↓bO, go_sem, seval, Tok.cells, rC]
   refine q0 _ ?_
   clear q0 Q0
   refine AAny_loadK 8 1 rfl rfl (by kernel_rfl) (by kernel_rfl) (by kernel_rfl) (fun _ _ h => h) fun Q0 q0 => ?_
   simp only [↓bO, go_sem, seval, Tok.cells, rC]
   refine q0 _ ?_
   clear q0 Q0
   refine AAny_all1 (i := 0) (by kernel_rfl) ?_
   ·
    refine aAt_op rfl rfl fun Q0 q0 => ?_
    simp only [↓bO, go_sem, seval, Tok.cells, rC]
    refine q0 _ ⟨⟨⟨_, _, rfl, by simp, rfl, trivial, trivial⟩, ⟨⟨_, _, rfl, by simp, rfl, trivial, trivial⟩, trivial⟩⟩, ?_⟩
    clear q0 Q0
    refine AAny_all1 (i := 9) (by kernel_rfl) ?_
    ·
     refine aAt_op rfl rfl fun Q0 q0 => ?_
     simp only [↓bO, go_sem, seval, Tok.cells, rC]
     refine q0 _ ⟨⟨⟨_, _, rfl, by simp, rfl, trivial, trivial⟩, ⟨⟨_, _, rfl, by simp, rfl, trivial, trivial⟩, trivial⟩⟩, ?_⟩
     clear q0 Q0
     refine AAny_takeK 10 rfl (by kernel_rfl) (by kernel_rfl) (by kernel_rfl) (fun _ _ h => h) fun Q0 q0 => ?_
     simp only [↓bO, go_sem, seval, Tok.cells, rC]
     refine q0 _ ?_
     clear q0 Q0
     refine AAny_takeK 11 rfl (by kernel_rfl) (by kernel_rfl) (by kernel_rfl) (fun _ _ h => h) fun Q0 q0 => ?_
     simp only [↓bO, go_sem, seval, Tok.cells, rC]
     refine q0 _ ?_
     clear q0 Q0
     refine AAny_done (by kernel_rfl) ?_
     simp only [thenQ, blockQ, noGotoQ]
     refine y1 _ ?_
     try clear y1 Y1
     refine AWp_ret ?_
     try simp only [thenQ, blockQ, noGotoQ, retQ, aRes, tupOf, bS, bA, aLoad, getO, pack, bL, Nat.reduceAdd, Nat.reduceLeDiff, Nat.reduceEqDiff, ↓reduceIte, ti25, tyX, Tok.cells, List.length_map, rC]
     have hz := rd_err l m (l.length + 1) none i lv (by rw [← rdP_pos]; exact he)
     have hp := rdP_pos l m (l.length + 1) i lv
     simp only [rdF, hz, ← hp]
     exact Le.tup ⟨zTy_le, .refl _, .refl _, trivial⟩
  ·
   have he : (rdP l m (l.length + 1) none i lv).2.2 = 0 := by simpa using hb25
   refine AWp_skip ?_
   try simp only [thenQ, blockQ, noGotoQ]
   refine y0 _ ?_
   try clear y0 Y0
   refine AWp_seqK fun Y0 y0 => ?_
   refine AAny_start [(1, 1, [.v (.int .i64 (rdP l m (l.length + 1) none i lv).2.1)])] 8 rfl mixed (⟨⟨_, _, rfl, by simp, rfl, trivial, trivial⟩, trivial⟩) rfl ?_
   dsimp only
   refine AAny_takeK 1 rfl (by kernel_rfl) (by kernel_rfl) (by kernel_rfl) (fun _ _ h => h) fun Q0 q0 => ?_
   simp only [↓bO, go_sem, seval, Tok.cells, rC]
   refine q0 _ ?_
   clear q0 Q0
   refine AAny_takeK 2 rfl (by kernel_rfl) (by kernel_rfl) (by kernel_rfl) (fun _ _ h => h) fun Q0 q0 => ?_
   simp only [↓bO, go_sem, seval, Tok.cells, rC]
   refine q0 _ ?_
   clear q0 Q0
   refine AAny_takeK 3 rfl (by kernel_rfl) (by kernel_rfl) (by kernel_rfl) (fun _ _ h => h) fun Q0 q0 => ?_
   simp only [↓bO, go_sem, seval, Tok.cells, rC]
   refine q0 _ ?_
   clear q0 Q0
   refine AAny_loadK 4 0 rfl rfl (by kernel_rfl) (by kernel_rfl) (by kernel_rfl) (fun _ _ h => h) fun Q0 q0 => ?_
   simp only [↓bO, go_sem, seval, Tok.cells, rC]
   refine q0 _ ?_
   clear q0 Q0
   refine AAny_all1 (i := 0) (by kernel_rfl) ?_
   ·
    refine aAt_op rfl rfl fun Q0 q0 => ?_
    simp only [↓bO, go_sem, seval, Tok.cells, rC]
    refine q0 _ ⟨⟨⟨_, _, rfl, by simp, rfl, trivial, trivial⟩, trivial⟩, ?_⟩
    clear q0 Q0
    refine AAny_all1 (i := 5) (by kernel_rfl) ?_
    ·
     refine aAt_op rfl rfl fun Q0 q0 => ?_
     simp only [↓bO, go_sem, seval, Tok.cells, rC]
     refine q0 _ ⟨⟨⟨_, _, rfl, by simp, rfl, trivial, trivial⟩, trivial⟩, ?_⟩
     clear q0 Q0
     refine AAny_takeK 6 rfl (by kernel_rfl) (by kernel_rfl) (by kernel_rfl) (fun _ _ h => h) fun Q0 q0 => ?_
     simp only [↓bO, go_sem, seval, Tok.cells, rC]
     refine q0 _ ?_
     clear q0 Q0
     refine AAny_takeK 7 rfl (by kernel_rfl) (by kernel_rfl) (by kernel_rfl) (fun _ _ h => h) fun Q0 q0 => ?_
     simp only [↓bO, go_sem, seval, Tok.cells, rC]
     refine q0 _ ?_
     clear q0 Q0
     refine AAny_done (by kernel_rfl) ?_
     simp only [thenQ, blockQ, noGotoQ]
     refine y0 _ ?_
     try clear y0 Y0
     refine AWp_ret ?_
     try simp only [thenQ, blockQ, noGotoQ, retQ, aRes, tupOf, bS, bA, aLoad, getO, pack, bL, Nat.reduceAdd, Nat.reduceLeDiff, Nat.reduceEqDiff, ↓reduceIte, ti25, tyX, Tok.cells, List.length_map, rC]
     have hp := rdP_eq he
     simp only [rdF, ← hp, he]
     exact Le.refl _
theorem aw4_read2 : rdF aw4T 9 0 1 = (aw4Y, 7, 0) := by rfl
theorem aw4_read_pure : APure Tryd.prog 15 [.sl 4 (aw4T.map Tok.cells), .v (.int .i64 0), .v (.int .i64 1), .v (.int .i64 9)] (.tup [.agg aw4Y.cells, .v (.int .i64 7), .v (.int .i64 0)]) := by
  have h := Read_pure aw4T 9 0 1 (by decide) (by decide) (by decide)
  rw [aw4_read2] at h; exact h
theorem aw4_print2 : APure Tryd.prog 9 [.agg aw4Y.cells] (.v (.string aw4S)) := by rw [aw4_cells]; exact aw4_print
theorem awake4_pure : APure Tryd.prog 5 [] (.v (.bool true)) := by
  refine APure.mkL (.nil) (.v _) ?_
  refine ACalls_intro Tryd.func5 (by kernel_rfl) rfl (by rw [Tryd.ntmps5]; simp) (fun hm => ?_)
  simp only [Tryd.ntmps5, Tryd.results5, List.length_cons, List.length_nil, Nat.reduceAdd, Nat.reduceSub, List.replicate_succ, List.replicate_zero, List.cons_append, List.nil_append]
  refine AWp_seqK fun Y0 y0 => ?_
  refine AWp_region ?_
  simp only [↓bO, go_sem, seval, Tok.cells]
  refine y0 _ ?_
  try clear y0 Y0
  refine AWp_seqK fun Y0 y0 => ?_
  refine AWp_region ?_
  refine aops_chunk 1 fun Q0 q0 => ?_
  simp only [↓bO, go_sem, seval, Tok.cells]
  refine APure.call (aw4_words) ?_
  try simp only [bS, bA, thenQ, blockQ, noGotoQ]
  iterate 6 (refine q0 _ ?_; clear q0 Q0; simp only [go_sem]; refine aops_chunk 1 fun Q0 q0 => ?_; simp only [↓bO, go_sem, seval, Tok.cells])
  refine q0 _ ?_
  clear q0 Q0
  simp only [go_sem]
  simp only [↓bO, go_sem, seval, Tok.cells]
  refine y0 _ ?_
  try clear y0 Y0
  refine AWp_seqK fun Y0 y0 => ?_
  refine AWp_region ?_
  refine aops_chunk 1 fun Q0 q0 => ?_
  simp only [↓bO, go_sem, seval, Tok.cells]
  refine q0 _ ?_
  clear q0 Q0
  simp only [go_sem]
  refine aops_chunk 1 fun Q0 q0 => ?_
  simp only [↓bO, go_sem, seval, Tok.cells]
  refine APure.call (aw4_read_pure) ?_
  try simp only [bS, bA, thenQ, blockQ, noGotoQ]
  iterate 7 (refine q0 _ ?_; clear q0 Q0; simp only [go_sem]; refine aops_chunk 1 fun Q0 q0 => ?_; simp only [↓bO, go_sem, seval, Tok.cells])
  refine q0 _ ?_
  clear q0 Q0
  simp only [go_sem]
  simp only [↓bO, go_sem, seval, Tok.cells]
  refine y0 _ ?_
  try clear y0 Y0
  refine AWp_seqK fun Y0 y0 => ?_
  refine AWp_region ?_
  iterate 3 (refine aops_chunk 1 fun Q0 q0 => ?_; simp only [↓bO, go_sem, seval, Tok.cells]; refine q0 _ ?_; clear q0 Q0; simp only [go_sem])
  refine aops_case 20 rfl (fun hc20 => ?_) (fun hc20 => ?_)
  ·
   simp only [List.set_cons_zero, List.set_cons_succ]
   iterate 4 (refine aops_chunk 1 fun Q0 q0 => ?_; simp only [↓bO, go_sem, seval, Tok.cells]; refine q0 _ ?_; clear q0 Q0; simp only [go_sem])
   refine aops_case 24 rfl (fun hc24 => ?_) (fun hc24 => ?_)
   ·
    simp only [List.set_cons_zero, List.set_cons_succ]
    iterate 4 (refine aops_chunk 1 fun Q0 q0 => ?_; simp only [↓bO, go_sem, seval, Tok.cells]; refine q0 _ ?_; clear q0 Q0; simp only [go_sem])
    refine aops_case 28 rfl (fun hc28 => ?_) (fun hc28 => ?_)
    ·
     simp only [List.set_cons_zero, List.set_cons_succ]
     refine aops_chunk 1 fun Q0 q0 => ?_
     simp only [↓bO, go_sem, seval, Tok.cells]
     refine q0 _ ?_
     clear q0 Q0
     simp only [go_sem]
     refine aops_chunk 1 fun Q0 q0 => ?_
     simp only [↓bO, go_sem, seval, Tok.cells]
     refine APure.call (aw4_print2) ?_
     try simp only [bS, bA, thenQ, blockQ, noGotoQ]
     iterate 2 (refine q0 _ ?_; clear q0 Q0; simp only [go_sem]; refine aops_chunk 1 fun Q0 q0 => ?_; simp only [↓bO, go_sem, seval, Tok.cells])
     refine q0 _ ?_
     clear q0 Q0
     simp only [go_sem]
     simp only [↓bO, go_sem, seval, Tok.cells]
     refine y0 _ ?_
     try clear y0 Y0
     refine AWp_ret ?_
     try simp only [thenQ, blockQ, noGotoQ, retQ, aRes, tupOf, bS, bA]
     refine Le.of_eq (congrArg (fun b => AV.v (.bool b)) ?_)
     first | rfl | decide | kernel_rfl
    ·
     simp only [List.set_cons_zero, List.set_cons_succ]
     exact absurd hc28 (by decide)
   ·
    simp only [List.set_cons_zero, List.set_cons_succ]
    exact absurd hc24 (by decide)
  ·
   simp only [List.set_cons_zero, List.set_cons_succ]
   exact absurd hc20 (by decide)
mutual
def Ty.cnt : Ty → Nat
  | .mk _ _ ps => 1 + Ty.cntL ps
def Ty.cntL : List Ty → Nat
  | [] => 0
  | p :: ps => Ty.cnt p + Ty.cntL ps
end
theorem Ty.cnt_eq (t : Ty) : t.cnt = 1 + Ty.cntL t.ps := by cases t; simp [Ty.cnt, Ty.ps]
theorem Ty.cntL_append : ∀ (ps qs : List Ty), Ty.cntL (ps ++ qs) = Ty.cntL ps + Ty.cntL qs
  | [], qs => by simp [Ty.cntL]
  | p :: ps, qs => by simp [Ty.cntL, Ty.cntL_append ps qs]; omega
theorem Ty.cntL_take {ps : List Ty} {s : Nat} {p : Ty} (hp : ps[s]? = some p) : Ty.cntL (ps.take (s + 1)) = Ty.cntL (ps.take s) + p.cnt := by
  rw [List.take_add_one, hp, Ty.cntL_append]; simp [Ty.cntL]
theorem Ty.cntL_len : ∀ ps, ps.length ≤ Ty.cntL ps
  | [] => by simp
  | p :: ps => by
    have := Ty.cntL_len ps
    have h2 : 1 ≤ p.cnt := by rw [Ty.cnt_eq]; omega
    simp [Ty.cntL]; omega
theorem TVar_pure (n : Int) : APure Tryd.prog 56 [.v (.int .i64 n)] (.agg (Ty.mk 1 n []).cells) := by
  refine APure.mkL (.cons (.v _) .nil) ((Ty.dataAgg _)) ?_
  refine ACalls_intro Tryd.func56 (by kernel_rfl) rfl (by rw [Tryd.ntmps56]; simp) (fun hm => ?_)
  simp only [Tryd.ntmps56, Tryd.results56, List.length_cons, List.length_nil, Nat.reduceAdd, Nat.reduceSub, List.replicate_succ, List.replicate_zero, List.cons_append, List.nil_append]
  iterate 2 (refine AWp_seqK fun Y0 y0 => ?_; refine AWp_region ?_; simp only [↓bO, go_sem, seval]; refine y0 _ ?_; (try clear y0 Y0))
  refine AWp_ret ?_
  try simp only [thenQ, blockQ, noGotoQ, retQ, aRes, tupOf, bS, bA, aLoad, getO, pack, bL, Nat.reduceAdd, Nat.reduceLeDiff, Nat.reduceEqDiff, ↓reduceIte, ti25, tyX]
  refine Le.agg ?_
  rw [Ty.cells_eq]
  exact ⟨.refl _, .refl _, Le.slNil 3, trivial⟩
abbrev intC (x : Int) : List AV := [.v (.int .i64 x)]
structure RNode where
  t : Ty
  parts : List Int
def RNode.cells (r : RNode) : List AV := [.v (.int .i64 r.t.k), .v (.int .i64 r.t.n), .sl 3 (r.t.ps.map Ty.cells), .sl 1 (r.parts.map intC)]
structure Bd where
  v : Int
  t : Ty
def Bd.cells (b : Bd) : List AV := .v (.int .i64 b.v) :: b.t.cells
def bfind (l : List Bd) (n : Int) : Int := idxI (fun b => b.v == n) l
mutual
/-- what a substitution makes of a type -/
def Ty.sub (l : List Bd) : Ty → Ty
  | .mk k n ps => if k = 1 ∧ 0 ≤ bfind l n then ((l[(bfind l n).toNat]?).map Bd.t).getD (.mk 0 0 []) else .mk k n (Ty.subL l ps)
def Ty.subL (l : List Bd) : List Ty → List Ty
  | [] => []
  | p :: ps => Ty.sub l p :: Ty.subL l ps
end
end Go.Proofs.YtkokfdmggdhfmaaDoor
namespace Go.Proofs.YtkokfdmggdhfmaaDoor
open Go Go.RowKit
set_option linter.unusedSimpArgs false
set_option linter.unnecessarySimpa false
set_option linter.unusedVariables false
def itB (n : Int) : ByteArray := ⟨(Lib.itoa n).toArray⟩
theorem itB_size (n : Int) (h0 : 0 ≤ n) (h1 : n ≤ 9223372036854775807) : (itB n).size ≤ 21 := by
  have := Lib.itoa_length_le n (by omega) h1
  show (Lib.itoa n).toArray.size ≤ 21
  simpa using this
def nmH (n : Int) : ByteArray := (⟨#[39]⟩ : ByteArray) ++ Utf8.encode (97 + n % 26)
def nmB (n : Int) : ByteArray := if 26 ≤ n then nmH n ++ itB (n / 26) else nmH n
theorem enc26 (k : Fin 26) : Utf8.encode (97 + (k.val : Int)) = ⟨#[UInt8.ofNat (97 + k.val)]⟩ := by revert k; decide
theorem enc_mod (n : Int) : ∃ b : UInt8, Utf8.encode (97 + n % 26) = ⟨#[b]⟩ ∧ 97 ≤ b.toNat ∧ b.toNat ≤ 122 := by
  have h0 : 0 ≤ n % 26 := Int.emod_nonneg _ (by decide)
  have h1 : n % 26 < 26 := Int.emod_lt_of_pos _ (by decide)
  have h := enc26 ⟨(n % 26).toNat, by omega⟩
  have e : (((n % 26).toNat : Nat) : Int) = n % 26 := by omega
  simp only [e] at h
  refine ⟨_, h, ?_, ?_⟩
  · simp; omega
  · simp; omega
theorem nmH_size (n : Int) : (nmH n).size = 2 := by
  obtain ⟨b, h, _⟩ := enc_mod n
  unfold nmH; rw [h, ByteArray.size_append]; rfl
theorem nmB_size {n : Int} (h0 : 0 ≤ n) (h1 : n < 1073741824) : (nmB n).size ≤ 23 := by
  unfold nmB
  split
  · have := itB_size (n / 26) (by omega) (by omega)
    rw [ByteArray.size_append, nmH_size]; omega
  · rw [nmH_size]; omega
def bLp : ByteArray := ⟨#[40]⟩
def bRp : ByteArray := ⟨#[41]⟩
def bAr : ByteArray := ⟨#[32, 45, 62, 32]⟩
def bSt : ByteArray := ⟨#[32, 42, 32]⟩
def brB (b : Bool) (s : ByteArray) : ByteArray := if b then bLp ++ s ++ bRp else s
theorem brB_size (b : Bool) (s : ByteArray) : (brB b s).size ≤ s.size + 2 := by
  unfold brB
  split
  · rw [ByteArray.size_append, ByteArray.size_append]; show 1 + s.size + 1 ≤ _; omega
  · omega
mutual
/-- a right type's text -/
def Ty.tx : Ty → ByteArray
  | .mk k n ps =>
    if k = 1 then nmB n else if k = 2 then ⟨#[105, 110, 116]⟩ else if k = 3 then ⟨#[98, 111, 111, 108]⟩
    else if k = 4 then (match Ty.txP ps with
      | (ka, a) :: (_, b) :: _ => brB (ka == 4) a ++ bAr ++ b
      | _ => ByteArray.empty)
    else bLp ++ joinB ((Ty.txP ps).map fun p => brB (p.1 == 4) p.2) bSt ++ bRp
def Ty.txP : List Ty → List (Int × ByteArray)
  | [] => []
  | p :: ps => (p.k, Ty.tx p) :: Ty.txP ps
end
theorem Ty.txP_eq : ∀ ps, Ty.txP ps = ps.map fun p => (p.k, p.tx)
  | [] => rfl
  | p :: ps => by rw [Ty.txP, Ty.txP_eq ps]; rfl
def Ty.btx (p : Ty) : ByteArray := brB (p.k == 4) p.tx
theorem Ty.tx_eq (t : Ty) : t.tx = if t.k = 1 then nmB t.n else if t.k = 2 then ⟨#[105, 110, 116]⟩ else if t.k = 3 then ⟨#[98, 111, 111, 108]⟩
    else if t.k = 4 then (match t.ps with
      | a :: b :: _ => a.btx ++ bAr ++ b.tx
      | _ => ByteArray.empty)
    else bLp ++ joinB (t.ps.map Ty.btx) bSt ++ bRp := by
  cases t with
  | mk k n ps =>
    have e : (match ps.map (fun p => (p.k, p.tx)) with
        | (ka, a) :: (_, b) :: _ => brB (ka == 4) a ++ bAr ++ b
        | _ => ByteArray.empty) = (match ps with
        | a :: b :: _ => a.btx ++ bAr ++ b.tx
        | _ => ByteArray.empty) := by
      cases ps with
      | nil => rfl
      | cons a ps =>
        cases ps with
        | nil => rfl
        | cons b ps => rfl
    rw [Ty.tx, Ty.txP_eq, e, List.map_map]
    rfl
def sumS (l : List ByteArray) : Nat := (l.map ByteArray.size).sum
theorem join_cons2 (x y : List UInt8) (l : List (List UInt8)) (sep : List UInt8) : Lib.join (x :: y :: l) sep = x ++ sep ++ Lib.join (y :: l) sep := by
  simp [Lib.join, List.intercalate, List.intersperse]
theorem join_len (sep : List UInt8) : ∀ l : List (List UInt8), (Lib.join l sep).length ≤ (l.map List.length).sum + sep.length * l.length
  | [] => by simp [Lib.join, List.intercalate, List.intersperse]
  | [x] => by simp [Lib.join, List.intercalate, List.intersperse]
  | x :: y :: l => by
    have := join_len sep (y :: l)
    rw [join_cons2]
    simp only [List.length_append, List.map_cons, List.sum_cons, List.length_cons] at this ⊢
    rw [Nat.mul_add sep.length (l.length + 1), Nat.mul_one]
    omega
theorem joinB_size (l : List ByteArray) (sep : ByteArray) : (joinB l sep).size ≤ sumS l + sep.size * l.length := by
  have h := join_len sep.data.toList (l.map (·.data.toList))
  have e1 : (joinB l sep).size = (Lib.join (l.map (·.data.toList)) sep.data.toList).length := rfl
  have e2 : ((l.map (·.data.toList)).map List.length).sum = sumS l := by
    unfold sumS; rw [List.map_map]; congr 1
  have e3 : sep.data.toList.length = sep.size := Array.length_toList
  rw [e1]
  rw [e2, e3, List.length_map] at h
  exact h
def bt (s : ByteArray) (i : Nat) : Int := (((s[i]?).getD 0).toNat : Int)
theorem bt_range (s : ByteArray) (i : Nat) : 0 ≤ bt s i ∧ bt s i < 256 := by
  unfold bt
  have := ((s[i]?).getD 0).toNat_lt
  omega
def isSg (c : Int) : Bool := c == 40 || c == 41 || c == 44 || c == 58 || c == 61 || c == 42
def nxF (s : ByteArray) (i : Nat) : Int × Nat × Int :=
  if smI (bt s i) then
    if kwB (s.extract i (i + runN s i inI)) then (3, runN s i inI, 0) else if 20 < runN s i inI then (0, 0, 2) else (1, runN s i inI, 0)
  else if dgI (bt s i) then
    if (1 < runN s i dgI ∧ bt s i = 48) ∨ (i + runN s i dgI < s.size ∧ inI (bt s (i + runN s i dgI)) = true) then (0, 0, 3)
    else if 9 < runN s i dgI then (0, 0, 2) else (2, runN s i dgI, 0)
  else if isSg (bt s i) then (4, 1, 0)
  else if bt s i = 45 ∧ i + 1 < s.size ∧ bt s (i + 1) = 62 then (4, 2, 0)
  else (0, 0, 3)
def tkOf (s : ByteArray) (i : Nat) : Tok := ⟨(nxF s i).1, s.extract i (i + (nxF s i).2.1), i, ((i + (nxF s i).2.1 : Nat) : Int)⟩
def tkEnd (s : ByteArray) : Tok := ⟨0, ByteArray.empty, s.size, s.size⟩
def wdF (s : ByteArray) : Nat → Nat → List Tok → List Tok × Int × Int
  | 0, i, out => ([], i, 3)
  | f + 1, i, out =>
    if i < s.size then
      if blI (bt s i) then wdF s f (i + 1) out
      else if bt s i = 35 then wdF s f (i + runN s i (fun c => c != 10)) out
      else if (nxF s i).2.2 = 0 then wdF s f (i + (nxF s i).2.1) (out ++ [tkOf s i])
      else ([], i, (nxF s i).2.2)
    else (out ++ [tkEnd s], 0, 0)
def wdA (s : ByteArray) : List Tok × Int × Int := wdF s (s.size + 1) 0 []
theorem runN_pos {s : ByteArray} {i : Nat} {p : Int → Bool} (hi : i < s.size) (h : p (bt s i) = true) : 0 < runN s i p := by
  have h1 := runN_le s i p (by omega)
  rcases Nat.eq_zero_or_pos (runN s i p) with h0 | h0
  · exfalso
    unfold runN at h0
    have hl : s.data.toList.length = s.size := Array.length_toList
    have hd : s.data.toList.drop i = ((s[i]?).getD 0) :: s.data.toList.drop (i + 1) := by
      have h2 : i < s.data.toList.length := by omega
      rw [List.drop_eq_getElem_cons h2]
      congr 1
      have := byte_at hi
      rw [List.getElem?_eq_getElem h2] at this
      exact Option.some.inj this
    rw [hd, List.takeWhile_cons, if_pos (by exact h)] at h0
    simp at h0
  · exact h0
section
variable {s : ByteArray} {i n : Nat}
end
structure WS where
  f : Nat
  i : Nat
  out : List Tok
def WS.ok (s : ByteArray) (RES : List Tok × Int × Int) (w : WS) : Prop := wdF s w.f w.i w.out = RES ∧ s.size - w.i < w.f ∧ w.i ≤ s.size ∧ w.out.length ≤ w.i
section
variable {s : ByteArray} {RES : List Tok × Int × Int} {w : WS}
theorem WS.ok.stop (h : w.ok s RES) (hi : ¬ w.i < s.size) : RES = (w.out ++ [tkEnd s], 0, 0) := by
  obtain ⟨h1, h2, _, _⟩ := h
  obtain ⟨g, hg⟩ : ∃ g, w.f = g + 1 := ⟨w.f - 1, by omega⟩
  rw [hg, wdF, if_neg hi] at h1
  exact h1.symm
theorem WS.ok.blank (h : w.ok s RES) (hi : w.i < s.size) (hb : blI (bt s w.i) = true) : WS.ok s RES ⟨w.f - 1, w.i + 1, w.out⟩ := by
  obtain ⟨h1, h2, h3, h4⟩ := h
  obtain ⟨g, hg⟩ : ∃ g, w.f = g + 1 := ⟨w.f - 1, by omega⟩
  rw [hg, wdF, if_pos hi, if_pos hb] at h1
  exact ⟨by simp only [hg, Nat.add_sub_cancel]; exact h1, by simp only; omega, by simp only; omega, by simp only; omega⟩
theorem WS.ok.rem (h : w.ok s RES) (hi : w.i < s.size) (hb : blI (bt s w.i) = false) (hc : bt s w.i = 35) {n : Nat} (hn : runN s w.i (fun c => c != 10) = n) : WS.ok s RES ⟨w.f - 1, w.i + n, w.out⟩ := by
  obtain ⟨h1, h2, h3, h4⟩ := h
  obtain ⟨g, hg⟩ : ∃ g, w.f = g + 1 := ⟨w.f - 1, by omega⟩
  rw [hg, wdF, if_pos hi, if_neg (by simp [hb]), if_pos hc, hn] at h1
  have hp : 0 < runN s w.i (fun c => c != 10) := runN_pos (p := fun c => c != 10) hi (by rw [hc]; decide)
  have hl : w.i + runN s w.i (fun c => c != 10) ≤ s.size := runN_le s w.i (fun c => c != 10) (by omega)
  rw [hn] at hp hl
  exact ⟨by simp only [hg, Nat.add_sub_cancel]; exact h1, by simp only; omega, by simp only; omega, by simp only; omega⟩
end
inductive Ty.Gd : Ty → Prop where
  | int : Ty.Gd (.mk 2 0 [])
  | bool : Ty.Gd (.mk 3 0 [])
  | fn {a b : Ty} (ha : a.Gd) (hb : b.Gd) : Ty.Gd (.mk 4 0 [a, b])
  | tup {ps : List Ty} (h2 : 2 ≤ ps.length) (h8 : ps.length ≤ 8) (h : ∀ p ∈ ps, p.Gd) : Ty.Gd (.mk 5 0 ps)
abbrev Vw := Int × ByteArray
def vw (t : Tok) : Vw := (t.k, t.s)
theorem btx_of {t : Ty} (h : ¬ t.k = 4) : t.btx = t.tx := by
  unfold Ty.btx brB
  rw [if_neg (by simpa using h)]
theorem cnt_mk (k n : Int) (ps : List Ty) : (Ty.mk k n ps).cnt = 1 + Ty.cntL ps := by have := (Ty.mk k n ps).cnt_eq; simpa [Ty.ps] using this
theorem cnt_pos' (t : Ty) : 1 ≤ t.cnt := by rw [t.cnt_eq]; omega
theorem btx_size (t : Ty) : t.btx.size ≤ t.tx.size + 2 := brB_size _ _
end Go.Proofs.YtkokfdmggdhfmaaDoor
namespace Go.Proofs.YtkokfdmggdhfmaaDoor
open Go Go.RowKit
set_option maxRecDepth 100000
set_option maxHeartbeats 4000000
set_option linter.unusedSimpArgs false
set_option linter.unnecessarySimpa false
set_option linter.unusedVariables false
attribute [local irreducible] aops dRun
theorem cntL_part {p : Ty} : ∀ {qs : List Ty}, p ∈ qs → p.cnt ≤ Ty.cntL qs
  | r :: qs, hp => by
    rw [Ty.cntL]
    rcases List.mem_cons.1 hp with rfl | hp
    · omega
    · have := cntL_part hp; omega
theorem tx_step {ps : List Ty} {s : Nat} {p : Ty} (hp : ps[s]? = some p) : ((ps.take (s + 1)).map Ty.btx).map strC = ((ps.take s).map Ty.btx).map strC ++ [[.v (.string (brB (p.k == 4) p.tx))]] := by
  rw [List.take_add_one, hp]; simp [strC, Ty.btx]
theorem und_strs {n id : Nat} {l : List ByteArray} (h : id < n) : Und n (.osl id 1 (l.map strC)) := .osl h (.data (dataStrs l))
theorem und_strs1 {n id : Nat} {l : List ByteArray} {b : ByteArray} (h : id < n) : Und n (.osl id 1 (l.map strC ++ [[.v (.string b)]])) := by
  have h1 := und_strs (l := l ++ [b]) h
  rw [List.map_append] at h1
  exact h1
theorem bracket_pure (b : Bool) (s : ByteArray) (hs : s.size ≤ 1099511627776) : APure Tryd.prog 37 [.v (.bool b), .v (.string s)] (.v (.string (brB b s))) := by
  refine APure.mkL (.cons (.v _) (.cons (.v _) .nil)) (.v _) ?_
  refine ACalls_intro Tryd.func37 (by kernel_rfl) rfl (by rw [Tryd.ntmps37]; simp) (fun hm => ?_)
  simp only [Tryd.ntmps37, Tryd.results37, List.length_cons, List.length_nil, Nat.reduceAdd, Nat.reduceSub, List.replicate_succ, List.replicate_zero, List.cons_append, List.nil_append]
  have hz3 : ((((#[40] : Array UInt8).size + s.size : Nat) : Int) ≤ IntKind.i64.max) = True := eq_true (by ( show ((1 + s.size : Nat) : Int) ≤ 9223372036854775807); omega)
  have hz2 : ((((#[40] : Array UInt8).size + s.size + (#[41] : Array UInt8).size : Nat) : Int) ≤ IntKind.i64.max) = True := eq_true (by ( show ((1 + s.size + 1 : Nat) : Int) ≤ 9223372036854775807); omega)
  refine AWp_seqK fun Y0 y0 => ?_
  refine AWp_region ?_
  simp only [↓bO, go_sem, seval, hz3, hz2]
  refine y0 _ ?_
  try clear y0 Y0
  refine AWp_seqK fun Y0 y0 => ?_
  refine AWp_seqK fun Y1 y1 => ?_
  refine AWp_region ?_
  simp only [↓bO, go_sem, seval, hz3, hz2]
  refine y1 _ ?_
  try clear y1 Y1
  refine AWp_cond rfl (fun hb5 => ?_) (fun hb5 => ?_)
  ·
   refine AWp_seqK fun Y1 y1 => ?_
   refine AWp_region ?_
   iterate 3 (refine aops_chunk 1 fun Q0 q0 => ?_; simp only [↓bO, go_sem, seval, hz3, hz2]; refine q0 _ ?_; clear q0 Q0; simp only [go_sem])
   simp only [↓bO, go_sem, seval, hz3, hz2]
   refine y1 _ ?_
   try clear y1 Y1
   refine AWp_ret ?_
   try simp only [thenQ, blockQ, noGotoQ, retQ, aRes, tupOf, bS, bA]
   refine Le.of_eq (congrArg (fun s => AV.v (.string s)) ?_)
   simp_all [brB, bLp, bRp]
  ·
   refine AWp_skip ?_
   try simp only [thenQ, blockQ, noGotoQ]
   refine y0 _ ?_
   try clear y0 Y0
   refine AWp_seqK fun Y0 y0 => ?_
   refine AWp_region ?_
   refine aops_chunk 1 fun Q0 q0 => ?_
   simp only [↓bO, go_sem, seval, hz3, hz2]
   refine q0 _ ?_
   clear q0 Q0
   simp only [go_sem]
   simp only [↓bO, go_sem, seval, hz3, hz2]
   refine y0 _ ?_
   try clear y0 Y0
   refine AWp_ret ?_
   try simp only [thenQ, blockQ, noGotoQ, retQ, aRes, tupOf, bS, bA]
   refine Le.of_eq (congrArg (fun s => AV.v (.string s)) ?_)
   simp_all [brB, bLp, bRp]
end Go.Proofs.YtkokfdmggdhfmaaDoor
namespace Go.Proofs.YtkokfdmggdhfmaaDoor
open Go Go.Shelf
def Tryd.laysM171_ren : Go.Shelf.Ren := ⟨fun | 171 => 60 | 243 => 73 | 246 => 89 | 283 => 104 | 284 => 105 | 285 => 106 | 286 => 107 | 129 => 117 | 317 => 116 | 318 => 118 | 319 => 119 | 320 => 120 | 337 => 124 | 338 => 125 | n => n, fun | 3 => 3 | 9 => 9 | 2 => 2 | 4 => 4 | 171 => 137 | 0 => 0 | 53 => 138 | 37 => 92 | 5 => 5 | 173 => 141 | 212 => 166 | 51 => 128 | 20 => 20 | 213 => 167 | 46 => 159 | 232 => 177 | 233 => 178 | n => n, fun | 17 => 5 | 18 => 6 | 19 => 7 | n => n⟩
theorem Tryd.laysM171 : Go.Proofs.LaysM.n171 Tryd.prog Tryd.laysM171_ren := {
  mixed := by kernel_rfl
  f129 := Tryd.func117.trans (congrArg some (by kernel_rfl))
  f171 := Tryd.func60.trans (congrArg some (by kernel_rfl))
  f243 := Tryd.func73.trans (congrArg some (by kernel_rfl))
  f246 := Tryd.func89.trans (congrArg some (by kernel_rfl))
  f283 := Tryd.func104.trans (congrArg some (by kernel_rfl))
  f284 := Tryd.func105.trans (congrArg some (by kernel_rfl))
  f285 := Tryd.func106.trans (congrArg some (by kernel_rfl))
  f286 := Tryd.func107.trans (congrArg some (by kernel_rfl))
  f317 := Tryd.func116.trans (congrArg some (by kernel_rfl))
  f318 := Tryd.func118.trans (congrArg some (by kernel_rfl))
  f319 := Tryd.func119.trans (congrArg some (by kernel_rfl))
  f320 := Tryd.func120.trans (congrArg some (by kernel_rfl))
  f337 := Tryd.func124.trans (congrArg some (by kernel_rfl))
  f338 := Tryd.func125.trans (congrArg some (by kernel_rfl))
  t0 := Tryd.underlying0
  a0 := Tryd.isAgg0
  z0 := Tryd.sizeOf0
  v0 := Tryd.zeroValue0
  t2 := Tryd.underlying2
  a2 := Tryd.isAgg2
  z2 := Tryd.sizeOf2
  v2 := Tryd.zeroValue2
  t3 := Tryd.underlying3
  a3 := Tryd.isAgg3
  z3 := Tryd.sizeOf3
  v3 := Tryd.zeroValue3
  t4 := Tryd.underlying4
  a4 := Tryd.isAgg4
  z4 := Tryd.sizeOf4
  v4 := Tryd.zeroValue4
  t5 := Tryd.underlying5
  a5 := Tryd.isAgg5
  z5 := Tryd.sizeOf5
  v5 := Tryd.zeroValue5
  t9 := Tryd.underlying9
  a9 := Tryd.isAgg9
  z9 := Tryd.sizeOf9
  v9 := Tryd.zeroValue9
  t20 := Tryd.underlying20
  a20 := Tryd.isAgg20
  z20 := Tryd.sizeOf20
  v20 := Tryd.zeroValue20
  t37 := Tryd.underlying92
  a37 := Tryd.isAgg92
  z37 := Tryd.sizeOf92
  v37 := Tryd.zeroValue92
  t46 := Tryd.underlying159
  a46 := Tryd.isAgg159
  z46 := Tryd.sizeOf159
  v46 := Tryd.zeroValue159
  t51 := Tryd.underlying128
  a51 := Tryd.isAgg128
  z51 := Tryd.sizeOf128
  v51 := Tryd.zeroValue128
  t53 := Tryd.underlying138
  a53 := Tryd.isAgg138
  z53 := Tryd.sizeOf138
  v53 := Tryd.zeroValue138
  t171 := Tryd.underlying137
  a171 := Tryd.isAgg137
  z171 := Tryd.sizeOf137
  v171 := Tryd.zeroValue137
  t173 := Tryd.underlying141
  a173 := Tryd.isAgg141
  z173 := Tryd.sizeOf141
  v173 := Tryd.zeroValue141
  t212 := Tryd.underlying166
  a212 := Tryd.isAgg166
  z212 := Tryd.sizeOf166
  v212 := Tryd.zeroValue166
  t213 := Tryd.underlying167
  a213 := Tryd.isAgg167
  z213 := Tryd.sizeOf167
  t232 := Tryd.underlying177
  a232 := Tryd.isAgg177
  z232 := Tryd.sizeOf177
  v232 := Tryd.zeroValue177
  t233 := Tryd.underlying178
  a233 := Tryd.isAgg178
  z233 := Tryd.sizeOf178
  v233 := Tryd.zeroValue178
  g17 := by kernel_rfl
  g18 := by kernel_rfl
  g19 := by kernel_rfl
  i0 := by kernel_rfl
  i2 := by kernel_rfl
  i3 := by kernel_rfl
  i4 := by kernel_rfl
  i5 := by kernel_rfl
  i9 := by kernel_rfl
  i20 := by kernel_rfl
  i37 := by kernel_rfl
  i46 := by kernel_rfl
  i51 := by kernel_rfl
  i53 := by kernel_rfl
  i171 := by kernel_rfl
  i173 := by kernel_rfl
  i212 := by kernel_rfl
  i232 := by kernel_rfl
  i233 := by kernel_rfl
  m17 := by kernel_rfl
  m18 := by kernel_rfl
  m19 := by kernel_rfl }
open Go.RowKit Go.Sort Go.Lib in
theorem Tryd.strconv_Itoa (n : Int) (h0 : -9223372036854775808 ≤ n) (h1 : n ≤ 9223372036854775807) (w : World) (htab : Lib.TabIs Tryd.prog w "internal/strconv.uint64pow10" .u64 Lib.pow10Tab) :
    Calls Tryd.prog 60 #[.int .i64 n] w fun e w' => e = .returned (.string ⟨(Lib.itoa n).toArray⟩) ∧ ∃ k os, w' = grow (w.drewN k) os := Any.strconv_Itoa Tryd.laysM171 n h0 h1 w htab
end Go.Proofs.YtkokfdmggdhfmaaDoor
namespace Go.Proofs.YtkokfdmggdhfmaaDoor
open Go Go.RowKit
set_option maxRecDepth 100000
set_option maxHeartbeats 4000000
set_option linter.unusedSimpArgs false
set_option linter.unnecessarySimpa false
set_option linter.unusedVariables false
attribute [local irreducible] aops dRun
theorem Itoa_pure (n : Int) (h0 : -9223372036854775808 ≤ n) (h1 : n ≤ 9223372036854775807) : APure Tryd.prog 60 [.v (.int .i64 n)] (.v (.string (itB n))) := by
  refine APure.ofCalls ⟨_, Tryd.func60, by kernel_rfl, by kernel_rfl⟩ (.cons (.v _) .nil) (.v _) fun E A w vs hgl hA hr => ?_
  obtain ⟨u, rfl, h9⟩ := hr.one
  cases h9
  refine (Tryd.strconv_Itoa n h0 h1 w (hgl.tab gl_mem5 (by kernel_rfl) (by kernel_rfl))).mono ?_
  rintro e w' ⟨rfl, k, os, rfl⟩
  exact ⟨_, rfl, Lib.below_grow _ w (Nat.le_refl _) k os, .v _⟩
theorem Name_pure (n : Int) (h0 : 0 ≤ n) (h1 : n < 1073741824) : APure Tryd.prog 36 [.v (.int .i64 n)] (.v (.string (nmB n))) := by
  refine APure.mkL (.cons (.v _) .nil) (.v _) ?_
  refine ACalls_intro Tryd.func36 (by kernel_rfl) rfl (by rw [Tryd.ntmps36]; simp) (fun hm => ?_)
  simp only [Tryd.ntmps36, Tryd.results36, List.length_cons, List.length_nil, Nat.reduceAdd, Nat.reduceSub, List.replicate_succ, List.replicate_zero, List.cons_append, List.nil_append]
  have hm1 : n.tmod 26 = n % 26 := Int.tmod_eq_emod_of_nonneg h0
  have hd1 : n.tdiv 26 = n / 26 := Int.tdiv_eq_ediv_of_nonneg h0
  have hw1 : IntKind.i64.wrap (97 + n % 26) = 97 + n % 26 := wrap_in (by omega) (by omega)
  have hw4 : IntKind.i64.wrap (n % 26) = n % 26 := wrap_in (by omega) (by omega)
  have hw2 : IntKind.i32.wrap (97 + n % 26) = 97 + n % 26 := by (unfold IntKind.wrap; simp [IntKind.bits, IntKind.signed]; omega)
  have hw3 : IntKind.i64.wrap (n / 26) = n / 26 := wrap_in (by omega) (by omega)
  have hns : nmH n = (⟨#[39]⟩ : ByteArray) ++ (Utf8.encode (97 + n % 26)) := rfl
  have hnz := nmH_size n
  have hnz2 : 1 + (Utf8.encode (97 + n % 26)).size = 2 := by (rw [hns, ByteArray.size_append] at hnz; exact hnz)
  have hit := itB_size (n / 26) (by omega) (by omega)
  have hz1 : ((((#[39] : Array UInt8).size + (Utf8.encode (97 + n % 26)).size : Nat) : Int) ≤ IntKind.i64.max) = True := eq_true (by ( show ((1 + (Utf8.encode (97 + n % 26)).size : Nat) : Int) ≤ 9223372036854775807); omega)
  have hz2 : ((((#[39] : Array UInt8).size + (Utf8.encode (97 + n % 26)).size + (itB (n / 26)).size : Nat) : Int) ≤ IntKind.i64.max) = True := eq_true (by ( show ((1 + (Utf8.encode (97 + n % 26)).size + (itB (n / 26)).size : Nat) : Int) ≤ 9223372036854775807); omega)
  refine AWp_seqK fun Y0 y0 => ?_
  refine AWp_region ?_
  simp only [↓bO, go_sem, seval, hm1, hd1, hw1, hw2, hw3, hw4, hz1, hz2]
  refine y0 _ ?_
  try clear y0 Y0
  refine AWp_seqK fun Y0 y0 => ?_
  refine AWp_seqK fun Y1 y1 => ?_
  refine AWp_region ?_
  refine aops_chunk 1 fun Q0 q0 => ?_
  simp only [↓bO, go_sem, seval, hm1, hd1, hw1, hw2, hw3, hw4, hz1, hz2]
  refine q0 _ ?_
  clear q0 Q0
  simp only [go_sem]
  refine aops_chunk 1 fun Q0 q0 => ?_
  simp only [↓bO, go_sem, seval, hm1, hd1, hw1, hw2, hw3, hw4, hz1, hz2]
  refine APure.call (known_pure n) ?_
  try simp only [bS, bA, thenQ, blockQ, noGotoQ]
  refine q0 _ ?_
  clear q0 Q0
  simp only [go_sem]
  simp only [↓bO, go_sem, seval, hm1, hd1, hw1, hw2, hw3, hw4, hz1, hz2]
  refine y1 _ ?_
  try clear y1 Y1
  refine AWp_cond rfl (fun hb6 => ?_) (fun hb6 => ?_)
  ·
   exact absurd hb6 (by simp; omega)
  ·
   refine AWp_skip ?_
   try simp only [thenQ, blockQ, noGotoQ]
   refine y0 _ ?_
   try clear y0 Y0
   refine AWp_seqK fun Y0 y0 => ?_
   refine AWp_region ?_
   iterate 6 (refine aops_chunk 1 fun Q0 q0 => ?_; simp only [↓bO, go_sem, seval, hm1, hd1, hw1, hw2, hw3, hw4, hz1, hz2]; refine q0 _ ?_; clear q0 Q0; simp only [go_sem])
   simp only [↓bO, go_sem, seval, hm1, hd1, hw1, hw2, hw3, hw4, hz1, hz2]
   refine y0 _ ?_
   try clear y0 Y0
   refine AWp_joinM (mB 21 8) ([(3, .v (.string (nmB n)))]) ([]) ?_ ?_
   ·
    refine AWp_seqK fun Y0 y0 => ?_
    refine AWp_region ?_
    refine aops_chunk 1 fun Q0 q0 => ?_
    simp only [↓bO, go_sem, seval, hm1, hd1, hw1, hw2, hw3, hw4, hz1, hz2]
    refine q0 _ ?_
    clear q0 Q0
    simp only [go_sem]
    simp only [↓bO, go_sem, seval, hm1, hd1, hw1, hw2, hw3, hw4, hz1, hz2]
    refine y0 _ ?_
    try clear y0 Y0
    refine AWp_cond rfl (fun hb14 => ?_) (fun hb14 => ?_)
    ·
     refine AWp_region ?_
     iterate 3 (refine aops_chunk 1 fun Q0 q0 => ?_; simp only [↓bO, go_sem, seval, hm1, hd1, hw1, hw2, hw3, hw4, hz1, hz2]; refine q0 _ ?_; clear q0 Q0; simp only [go_sem])
     refine aops_chunk 1 fun Q0 q0 => ?_
     simp only [↓bO, go_sem, seval, hm1, hd1, hw1, hw2, hw3, hw4, hz1, hz2]
     refine APure.call (Itoa_pure (n / 26) (by omega) (by omega)) ?_
     try simp only [bS, bA, thenQ, blockQ, noGotoQ]
     refine q0 _ ?_
     clear q0 Q0
     simp only [go_sem]
     refine aops_chunk 1 fun Q0 q0 => ?_
     simp only [↓bO, go_sem, seval, hm1, hd1, hw1, hw2, hw3, hw4, hz1, hz2]
     refine q0 _ ?_
     clear q0 Q0
     simp only [go_sem]
     simp only [↓bO, go_sem, seval, hm1, hd1, hw1, hw2, hw3, hw4, hz1, hz2]
     try simp only [maskL, setsL, putsO, putO, mB, List.set_cons_zero, List.set_cons_succ, seval]
     have hnb : nmB n = if 26 ≤ n then nmH n ++ itB (n / 26) else nmH n := rfl
     rw [hns] at hnb
     first | rw [hnb, if_pos (by simpa using hb14)] | rw [hnb, if_neg (by simpa using hb14)]
     exact Weak.mk (by simp only [go_sem, Le.refl, Le.any]) (fun _ _ h => h) rfl rfl
    ·
     refine AWp_skip ?_
     try simp only [thenQ, blockQ, noGotoQ]
     try simp only [maskL, setsL, putsO, putO, mB, List.set_cons_zero, List.set_cons_succ, seval]
     have hnb : nmB n = if 26 ≤ n then nmH n ++ itB (n / 26) else nmH n := rfl
     rw [hns] at hnb
     first | rw [hnb, if_pos (by simpa using hb14)] | rw [hnb, if_neg (by simpa using hb14)]
     exact Weak.mk (by simp only [go_sem, Le.refl, Le.any]) (fun _ _ h => h) rfl rfl
   simp only [maskL, setsL, putsO, putO, mB, List.set_cons_zero, List.set_cons_succ, seval]
   refine AWp_seqK fun Y0 y0 => ?_
   refine AWp_region ?_
   refine aops_chunk 1 fun Q0 q0 => ?_
   simp only [↓bO, go_sem, seval, hm1, hd1, hw1, hw2, hw3, hw4, hz1, hz2]
   refine q0 _ ?_
   clear q0 Q0
   simp only [go_sem]
   simp only [↓bO, go_sem, seval, hm1, hd1, hw1, hw2, hw3, hw4, hz1, hz2]
   refine y0 _ ?_
   try clear y0 Y0
   refine AWp_ret ?_
   try simp only [thenQ, blockQ, noGotoQ, retQ, aRes, tupOf, bS, bA]
   exact Le.refl _
theorem right_part {t : Ty} (h : t.right = true) : ∀ p ∈ t.ps, p.right = true := by
  rw [Ty.right_eq, Bool.and_eq_true, List.all_eq_true] at h
  exact h.2
theorem right_ok {t : Ty} (h : t.right = true) : (t.k = 1 ∧ 0 ≤ t.n ∧ t.n < 1073741824 ∧ t.ps.length = 0) ∨ (t.n = 0 ∧ (((t.k = 2 ∨ t.k = 3) ∧ t.ps.length = 0) ∨ (t.k = 4 ∧ t.ps.length = 2) ∨ (t.k = 5 ∧ 2 ≤ t.ps.length ∧ t.ps.length ≤ 8))) := by
  rw [Ty.right_eq, Bool.and_eq_true] at h
  have h1 := h.1
  simp only [okN, decide_eq_true_eq] at h1
  exact h1
theorem right_var {t : Ty} (h : t.right = true) (hk : t.k = 1) : 0 ≤ t.n ∧ t.n < 1073741824 := by
  have := right_ok h
  omega
theorem right_four {t : Ty} (h : t.right = true) (hk : t.k = 4) : ∃ a b, t.ps = [a, b] := by
  have h1 := right_ok h
  have h2 : t.ps.length = 2 := by omega
  match hp : t.ps, h2 with
  | [a, b], _ => exact ⟨a, b, rfl⟩
theorem tx_sumR : ∀ qs : List Ty, (∀ p ∈ qs, p.tx.size + 5 ≤ 30 * p.cnt) → sumS (qs.map Ty.btx) + 3 * qs.length ≤ 30 * Ty.cntL qs := by
  intro qs
  induction qs with
  | nil => intro _; simp [Ty.cntL, sumS]
  | cons q qs ihq =>
    intro hq
    have h4 := hq q (by simp)
    have h5 := ihq fun p hp => hq p (by simp [hp])
    have h6 := btx_size q
    simp only [sumS, List.map_cons, List.sum_cons, Ty.cntL, List.length_cons] at h5 ⊢; omega
theorem right_tx0 : ∀ t : Ty, t.right = true → t.tx.size + 5 ≤ 30 * t.cnt := by
  refine Ty.ind fun t ih => ?_
  intro hr
  have hc := t.cnt_eq
  have hp := right_part hr
  rw [t.tx_eq]
  split
  · rename_i hk
    have hv := right_var hr hk
    have := nmB_size hv.1 hv.2
    omega
  split
  · show 3 + 5 ≤ _; omega
  split
  · show 4 + 5 ≤ _; omega
  split
  · rename_i hk
    obtain ⟨a, b, hps⟩ := right_four hr hk
    have ha := ih a (by rw [hps]; simp) (hp a (by rw [hps]; simp))
    have hb := ih b (by rw [hps]; simp) (hp b (by rw [hps]; simp))
    have h6 := btx_size a
    rw [hps] at hc ⊢
    simp only [Ty.cntL] at hc
    show (a.btx ++ bAr ++ b.tx).size + 5 ≤ _
    rw [ByteArray.size_append, ByteArray.size_append]
    have e : bAr.size = 4 := rfl
    omega
  · have h1 := joinB_size (t.ps.map Ty.btx) bSt
    have h4 := tx_sumR t.ps fun p hq => ih p hq (hp p hq)
    have e1 : bLp.size = 1 := rfl
    have e2 : bRp.size = 1 := rfl
    have e3 : bSt.size = 3 := rfl
    rw [e3, List.length_map] at h1
    rw [ByteArray.size_append, ByteArray.size_append]
    omega
theorem right_tx {t : Ty} (h : t.right = true) : t.tx.size + 5 ≤ 30 * t.cnt := right_tx0 t h
theorem tx_joinR {ps : List Ty} (h : ∀ p ∈ ps, p.right = true) : (joinB (ps.map Ty.btx) bSt).size ≤ 30 * Ty.cntL ps := by
  have h1 := joinB_size (ps.map Ty.btx) bSt
  have h4 := tx_sumR ps fun p hp => right_tx (h p hp)
  have e3 : bSt.size = 3 := rfl
  rw [e3, List.length_map] at h1
  omega
def Ty.ptx (t : Ty) : ByteArray := if t.right = true then t.tx else ByteArray.empty
theorem ptx_yes {t : Ty} (h : t.right = true) : t.ptx = t.tx := if_pos h
theorem ptx_no {t : Ty} (h : t.right = false) : t.ptx = ByteArray.empty := if_neg (by simp [h])
theorem TextR_pure : ∀ (T : Ty) (hr : T.right = true) (hc : T.cnt ≤ 1048576), APure Tryd.prog 21 [.agg T.cells] (.v (.string T.tx)) := by
  refine Ty.ind fun T ih => ?_
  intro hr hc
  refine APure.mkL (.cons T.dataAgg .nil) (.v _) ?_
  refine ACalls_intro Tryd.func21 (by kernel_rfl) rfl (by rw [Tryd.ntmps21]; simp) (fun hm => ?_)
  simp only [Tryd.ntmps21, Tryd.results21, List.length_cons, List.length_nil, Nat.reduceAdd, Nat.reduceSub, List.replicate_succ, List.replicate_zero, List.cons_append, List.nil_append]
  have hcn := T.cnt_eq
  have hcl := Ty.cntL_len T.ps
  simp only [Ty.cells_eq T, List.cons_append, List.nil_append]
  have hgp0 := right_part hr
  have hjs := tx_joinR hgp0
  have hz1 : ((((#[40] : Array UInt8).size + (joinB (T.ps.map Ty.btx) bSt).size : Nat) : Int) ≤ IntKind.i64.max) = True := eq_true (by ( show ((1 + (joinB (T.ps.map Ty.btx) bSt).size : Nat) : Int) ≤ 9223372036854775807); omega)
  have hz2 : ((((#[40] : Array UInt8).size + (joinB (T.ps.map Ty.btx) bSt).size + (#[41] : Array UInt8).size : Nat) : Int) ≤ IntKind.i64.max) = True := eq_true (by ( show ((1 + (joinB (T.ps.map Ty.btx) bSt).size + 1 : Nat) : Int) ≤ 9223372036854775807); omega)
  refine AWp_seqK fun Y0 y0 => ?_
  refine AWp_region ?_
  simp only [↓bO, go_sem, seval, hz1, hz2]
  refine y0 _ ?_
  try clear y0 Y0
  refine AWp_seqK fun Y0 y0 => ?_
  refine AWp_seqK fun Y1 y1 => ?_
  refine AWp_region ?_
  simp only [↓bO, go_sem, seval, hz1, hz2]
  refine y1 _ ?_
  try clear y1 Y1
  refine AWp_block ?_
  refine AWp_seqK fun Y1 y1 => ?_
  refine AWp_region ?_
  simp only [↓bO, go_sem, seval, hz1, hz2]
  refine y1 _ ?_
  try clear y1 Y1
  refine AWp_cond rfl (fun hb8 => ?_) (fun hb8 => ?_)
  ·
   have hk1 : T.k = 1 := by simpa using hb8
   have hvn := right_var hr hk1
   refine AWp_seqK fun Y1 y1 => ?_
   refine AWp_region ?_
   refine aops_chunk 2 fun Q0 q0 => ?_
   simp only [↓bO, go_sem, seval, hz1, hz2]
   refine q0 _ ?_
   clear q0 Q0
   simp only [go_sem]
   refine aops_chunk 1 fun Q0 q0 => ?_
   simp only [↓bO, go_sem, seval, hz1, hz2]
   refine APure.call (Name_pure T.n hvn.1 hvn.2) ?_
   try simp only [bS, bA, thenQ, blockQ, noGotoQ]
   refine q0 _ ?_
   clear q0 Q0
   simp only [go_sem]
   simp only [↓bO, go_sem, seval, hz1, hz2]
   refine y1 _ ?_
   try clear y1 Y1
   refine AWp_ret ?_
   try simp only [thenQ, blockQ, noGotoQ, retQ, aRes, tupOf, bS, bA]
   refine Le.of_eq (congrArg (fun s => AV.v (.string s)) ?_)
   rw [T.tx_eq]
   rw [if_pos hk1]
  ·
   have hk1 : ¬ T.k = 1 := by simpa using hb8
   refine AWp_seqK fun Y1 y1 => ?_
   refine AWp_region ?_
   simp only [↓bO, go_sem, seval, hz1, hz2]
   refine y1 _ ?_
   try clear y1 Y1
   refine AWp_cond rfl (fun hb13 => ?_) (fun hb13 => ?_)
   ·
    have hk2 : T.k = 2 := by simpa using hb13
    refine AWp_seqK fun Y1 y1 => ?_
    refine AWp_region ?_
    simp only [↓bO, go_sem, seval, hz1, hz2]
    refine y1 _ ?_
    try clear y1 Y1
    refine AWp_ret ?_
    try simp only [thenQ, blockQ, noGotoQ, retQ, aRes, tupOf, bS, bA]
    refine Le.of_eq (congrArg (fun s => AV.v (.string s)) ?_)
    rw [T.tx_eq]
    rw [if_neg hk1, if_pos hk2]
   ·
    have hk2 : ¬ T.k = 2 := by simpa using hb13
    refine AWp_seqK fun Y1 y1 => ?_
    refine AWp_region ?_
    simp only [↓bO, go_sem, seval, hz1, hz2]
    refine y1 _ ?_
    try clear y1 Y1
    refine AWp_cond rfl (fun hb15 => ?_) (fun hb15 => ?_)
    ·
     have hk3 : T.k = 3 := by simpa using hb15
     refine AWp_seqK fun Y1 y1 => ?_
     refine AWp_region ?_
     simp only [↓bO, go_sem, seval, hz1, hz2]
     refine y1 _ ?_
     try clear y1 Y1
     refine AWp_ret ?_
     try simp only [thenQ, blockQ, noGotoQ, retQ, aRes, tupOf, bS, bA]
     refine Le.of_eq (congrArg (fun s => AV.v (.string s)) ?_)
     rw [T.tx_eq]
     rw [if_neg hk1, if_neg hk2, if_pos hk3]
    ·
     have hk3 : ¬ T.k = 3 := by simpa using hb15
     refine AWp_seqK fun Y1 y1 => ?_
     refine AWp_region ?_
     simp only [↓bO, go_sem, seval, hz1, hz2]
     refine y1 _ ?_
     try clear y1 Y1
     refine AWp_cond rfl (fun hb17 => ?_) (fun hb17 => ?_)
     ·
      have hk4 : T.k = 4 := by simpa using hb17
      obtain ⟨a, b, hps⟩ := right_four hr hk4
      have hga : a.right = true := hgp0 a (by rw [hps]; simp)
      have hgb : b.right = true := hgp0 b (by rw [hps]; simp)
      have hab : T.cnt = 1 + (a.cnt + b.cnt) := by (rw [hcn, hps]; simp [Ty.cntL])
      have hsa := right_tx hga
      have hsb := right_tx hgb
      have hsa2 := brB_size (a.k == 4) a.tx
      have hz3 : ((((brB (a.k == 4) a.tx).size + (#[32, 45, 62, 32] : Array UInt8).size : Nat) : Int) ≤ IntKind.i64.max) = True := eq_true (by ( show (((brB (a.k == 4) a.tx).size + 4 : Nat) : Int) ≤ 9223372036854775807); omega)
      have hz4 : ((((brB (a.k == 4) a.tx).size + (#[32, 45, 62, 32] : Array UInt8).size + b.tx.size : Nat) : Int) ≤ IntKind.i64.max) = True := eq_true (by ( show (((brB (a.k == 4) a.tx).size + 4 + b.tx.size : Nat) : Int) ≤ 9223372036854775807); omega)
      refine AWp_seqK fun Y1 y1 => ?_
      refine AWp_drawK 19 mixed (by kernel_rfl) fun J0 j0 => ?_
      iterate 3 (simp only [go_sem]; refine dRun_chunk 3 fun Q0 q0 => ?_; simp only [↓dRun, ↓dOp, ↓bO, go_sem, seval, hz1, hz2, hps, hz3, hz4]; refine q0 _ ?_; clear q0 Q0)
      simp only [go_sem]
      refine dRun_chunk 1 fun Q0 q0 => ?_
      simp only [↓dRun, ↓dOp, ↓bO, go_sem, seval, hz1, hz2, hps, hz3, hz4]
      refine q0 _ ?_
      clear q0 Q0
      simp only [go_sem]
      refine dRun_chunk 1 fun Q0 q0 => ?_
      simp only [↓dRun, ↓dOp, ↓bO, go_sem, seval, hz1, hz2, hps, hz3, hz4]
      refine ⟨_, ih a (by rw [hps]; simp) hga (by omega), ?_⟩
      try simp only [bS, bA, thenQ, blockQ, noGotoQ]
      refine q0 _ ?_
      clear q0 Q0
      simp only [go_sem]
      refine dRun_chunk 1 fun Q0 q0 => ?_
      simp only [↓dRun, ↓dOp, ↓bO, go_sem, seval, hz1, hz2, hps, hz3, hz4]
      refine ⟨_, bracket_pure (a.k == 4) a.tx (by omega), ?_⟩
      try simp only [bS, bA, thenQ, blockQ, noGotoQ]
      refine q0 _ ?_
      clear q0 Q0
      simp only [go_sem]
      refine dRun_chunk 3 fun Q0 q0 => ?_
      simp only [↓dRun, ↓dOp, ↓bO, go_sem, seval, hz1, hz2, hps, hz3, hz4]
      refine q0 _ ?_
      clear q0 Q0
      simp only [go_sem]
      refine dRun_chunk 2 fun Q0 q0 => ?_
      simp only [↓dRun, ↓dOp, ↓bO, go_sem, seval, hz1, hz2, hps, hz3, hz4]
      refine q0 _ ?_
      clear q0 Q0
      simp only [go_sem]
      refine dRun_chunk 1 fun Q0 q0 => ?_
      simp only [↓dRun, ↓dOp, ↓bO, go_sem, seval, hz1, hz2, hps, hz3, hz4]
      refine ⟨_, ih b (by rw [hps]; simp) hgb (by omega), ?_⟩
      try simp only [bS, bA, thenQ, blockQ, noGotoQ]
      refine q0 _ ?_
      clear q0 Q0
      simp only [go_sem]
      simp only [↓dRun, ↓dOp, ↓bO, go_sem, seval, hz1, hz2, hps, hz3, hz4]
      refine j0 _ ?_
      clear j0 J0
      simp only [go_sem]
      simp only [↓bO, go_sem, seval, hz1, hz2, hps, hz3, hz4]
      refine y1 _ ?_
      try clear y1 Y1
      refine AWp_ret ?_
      try simp only [thenQ, blockQ, noGotoQ, retQ, aRes, tupOf, bS, bA]
      refine Le.of_eq (congrArg (fun s => AV.v (.string s)) ?_)
      rw [T.tx_eq]
      rw [if_neg hk1, if_neg hk2, if_neg hk3, if_pos hk4, hps]
      rfl
     ·
      have hk4 : ¬ T.k = 4 := by simpa using hb17
      refine AWp_skip ?_
      try simp only [thenQ, blockQ, noGotoQ]
      refine y0 _ ?_
      try clear y0 Y0
      refine AWp_seqK fun Y0 y0 => ?_
      refine AWp_region ?_
      simp only [↓bO, go_sem, seval, hz1, hz2]
      refine y0 _ ?_
      try clear y0 Y0
      refine AWp_seqK fun Y0 y0 => ?_
      refine AWp_seqK fun Y1 y1 => ?_
      refine AWp_region ?_
      refine aops_chunk 3 fun Q0 q0 => ?_
      simp only [↓bO, go_sem, seval, hz1, hz2]
      refine q0 _ ?_
      clear q0 Q0
      simp only [go_sem]
      simp only [↓bO, go_sem, seval, hz1, hz2]
      refine y1 _ ?_
      try clear y1 Y1
      refine AWp_block ?_
      refine AWp_weak (Weak.tokSlot 3 9 1 rfl) ?_
      simp only [List.set_cons_zero, List.set_cons_succ]
      refine AWp_loopM (σ := Nat) (mB 59 3848290697224) (fun s => s ≤ T.ps.length) (fun s => [(3, .osl 1 1 (((T.ps.take s).map Ty.btx).map strC)), (41, .v (.int .i64 (s : Int)))]) (fun s => [(1, .tok 9 1 s)]) (fun s => T.ps.length - s) 0 (by omega) ?_ (fun s hs => ?_)
      ·
       simp only [maskL, setsL, putsO, putO, mB, List.set_cons_zero, List.set_cons_succ, seval, bL]
       exact Weak.mk (by simp only [go_sem, Le.refl, Le.any, Le.slNil, Int.natCast_add, Int.cast_ofNat_Int, Int.natCast_one]) (fun _ _ h => h) rfl rfl
      simp only [maskL, setsL, putsO, putO, mB, List.set_cons_zero, List.set_cons_succ, seval]
      refine AWp_seqK fun Y1 y1 => ?_
      refine AWp_region ?_
      simp only [↓bO, go_sem, seval, hz1, hz2]
      refine y1 _ ?_
      try clear y1 Y1
      refine AWp_seqK fun Y1 y1 => ?_
      refine AWp_cond rfl (fun hb42 => ?_) (fun hb42 => ?_)
      ·
       have hk : s < T.ps.length := by simpa using hb42
       obtain ⟨p, hp⟩ : ∃ p, T.ps[s]? = some p := ⟨_, List.getElem?_eq_getElem hk⟩
       have hgp := hgp0 p (List.mem_of_getElem? hp)
       have hpc := cntL_part (List.mem_of_getElem? hp)
       have hsp := right_tx hgp
       have hw : IntKind.i64.wrap ((s : Int) + 1) = (s : Int) + 1 := wrap_in (by omega) (by omega)
       have hln : (((T.ps.take s).map Ty.btx).map strC).length = s := by simp; omega
       have hb1 : (s + 1) * 16 ≤ 140737488355328 := by omega
       have hb2 : s + 1 ≤ maxLen := by simp only [maxLen]; omega
       refine AWp_skip ?_
       try simp only [thenQ, blockQ, noGotoQ]
       refine y1 _ ?_
       try clear y1 Y1
       refine AWp_seqK fun Y1 y1 => ?_
       refine AWp_block ?_
       refine AWp_seqK fun Y2 y2 => ?_
       refine AWp_region ?_
       refine aops_chunk 3 fun Q0 q0 => ?_
       simp only [↓bO, go_sem, seval, hz1, hz2, hk, gM hp, Int.natCast_add, hw, hln, hb1, hb2, tx_step hp]
       refine q0 _ ?_
       clear q0 Q0
       simp only [go_sem]
       simp only [↓bO, go_sem, seval, hz1, hz2, hk, gM hp, Int.natCast_add, hw, hln, hb1, hb2, tx_step hp]
       refine y2 _ ?_
       try clear y2 Y2
       refine AWp_drawK 8 mixed (by kernel_rfl) fun J0 j0 => ?_
       simp only [go_sem]
       refine dRun_chunk 3 fun Q0 q0 => ?_
       simp only [↓dRun, ↓dOp, ↓bO, go_sem, seval, hz1, hz2, hk, gM hp, Int.natCast_add, hw, hln, hb1, hb2, tx_step hp]
       refine q0 _ ?_
       clear q0 Q0
       simp only [go_sem]
       refine dRun_chunk 2 fun Q0 q0 => ?_
       simp only [↓dRun, ↓dOp, ↓bO, go_sem, seval, hz1, hz2, hk, gM hp, Int.natCast_add, hw, hln, hb1, hb2, tx_step hp]
       refine q0 _ ?_
       clear q0 Q0
       simp only [go_sem]
       refine dRun_chunk 1 fun Q0 q0 => ?_
       simp only [↓dRun, ↓dOp, ↓bO, go_sem, seval, hz1, hz2, hk, gM hp, Int.natCast_add, hw, hln, hb1, hb2, tx_step hp]
       refine ⟨_, ih p (List.mem_of_getElem? hp) hgp (by omega), ?_⟩
       try simp only [bS, bA, thenQ, blockQ, noGotoQ]
       refine q0 _ ?_
       clear q0 Q0
       simp only [go_sem]
       refine dRun_chunk 1 fun Q0 q0 => ?_
       simp only [↓dRun, ↓dOp, ↓bO, go_sem, seval, hz1, hz2, hk, gM hp, Int.natCast_add, hw, hln, hb1, hb2, tx_step hp]
       refine ⟨_, bracket_pure (p.k == 4) p.tx (by omega), ?_⟩
       try simp only [bS, bA, thenQ, blockQ, noGotoQ]
       refine q0 _ ?_
       clear q0 Q0
       simp only [go_sem]
       simp only [↓dRun, ↓dOp, ↓bO, go_sem, seval, ↓bs1_1, ↓bs1_2, ↓bs1_3, ↓bs1_4, ↓bs1_5, ↓bs1_6, ↓bs1_7, ↓bs1_8, ↓bs1_9, ↓bs1_10, ↓bs1_11, ↓bs1_12, hz1, hz2, hk, gM hp, Int.natCast_add, hw, hln, hb1, hb2, tx_step hp]
       refine j0 _ ?_
       clear j0 J0
       simp only [go_sem]
       simp only [↓bO, go_sem, seval, hz1, hz2, hk, gM hp, Int.natCast_add, hw, hln, hb1, hb2, tx_step hp]
       refine y1 _ ?_
       try clear y1 Y1
       refine AWp_region ?_
       simp only [↓bO, go_sem, seval, hz1, hz2, hk, gM hp, Int.natCast_add, hw, hln, hb1, hb2, tx_step hp]
       refine ⟨(s + 1), (by omega), by omega, ?_⟩
       simp only [maskL, setsL, putsO, putO, mB, List.set_cons_zero, List.set_cons_succ, seval, hk, gM hp, Int.natCast_add, Int.natCast_one, hw, hln, hb1, hb2, tx_step hp]
       first | (refine Weak.drops 1 2 rfl rfl (by simp only; omega) (by simp only; omega) ?_ ?_ ?_) | (refine Weak.drops 0 2 rfl rfl (by simp only; omega) (by simp only; omega) ?_ ?_ ?_)
       · simp only [go_sem, Le.refl, Le.any, Int.natCast_add, Int.cast_ofNat_Int, Int.natCast_one]
       · simp only [UndL, UndOs, Ob.Und, and_true, true_and, and_self, Und.v, Und.any, Und.ptr, Und.map, Nat.reduceLT, Nat.zero_lt_succ, Und.tys, Und.tyAgg, Und.oslTys, Und.oslTys1, Und.clo0, Und.ty, und_strs, und_strs1, Und.tys, Nat.reduceLT]
       · simp only [UndL, UndOs, Ob.Und, and_true, true_and, and_self, Und.v, Und.any, Und.ptr, Und.map, Nat.reduceLT, Nat.zero_lt_succ, Und.tys, Und.tyAgg, Und.oslTys, Und.oslTys1, Und.clo0, Und.ty, und_strs, und_strs1, Und.tys, Nat.reduceLT]
      ·
       have hk : s = T.ps.length := by simp at hb42; omega
       refine AWp_exit ?_
       simp only [thenQ, blockQ, noGotoQ, bA, Nat.reduceEqDiff, ↓reduceIte]
       refine y0 _ ?_
       try clear y0 Y0
       refine AWp_seqK fun Y0 y0 => ?_
       refine AWp_region ?_
       refine aops_chunk 1 fun Q0 q0 => ?_
       simp only [↓bO, go_sem, seval, hz1, hz2]
       refine q0 _ ?_
       clear q0 Q0
       simp only [go_sem]
       refine aops_chunk 1 fun Q0 q0 => ?_
       simp only [↓bO, go_sem, seval, hz1, hz2]
       refine ACalls.args (args' := [.sl 1 ((T.ps.map Ty.btx).map strC), .v (.string bSt)]) ⟨by rw [hk, List.take_length]; exact Le.oslL, .refl _, trivial⟩ ?_
       refine APure.call (Join_pure (T.ps.map Ty.btx) bSt (by rw [List.length_map]; omega) (by omega)) ?_
       try simp only [bS, bA, thenQ, blockQ, noGotoQ]
       refine q0 _ ?_
       clear q0 Q0
       simp only [go_sem]
       simp only [↓bO, go_sem, seval, hz1, hz2]
       refine y0 _ ?_
       try clear y0 Y0
       refine AWp_ret ?_
       try simp only [thenQ, blockQ, noGotoQ, retQ, aRes, tupOf, bS, bA]
       refine Le.of_eq (congrArg (fun s => AV.v (.string s)) ?_)
       rw [T.tx_eq]
       rw [if_neg hk1, if_neg hk2, if_neg hk3, if_neg hk4]
       rfl
theorem PrintR_pure (T : Ty) (hc : T.cnt ≤ 1048576) : APure Tryd.prog 9 [.agg T.cells] (.v (.string T.ptx)) := by
  refine APure.mkL (.cons T.dataAgg .nil) (.v _) ?_
  refine ACalls_intro Tryd.func9 (by kernel_rfl) rfl (by rw [Tryd.ntmps9]; simp) (fun hm => ?_)
  simp only [Tryd.ntmps9, Tryd.results9, List.length_cons, List.length_nil, Nat.reduceAdd, Nat.reduceSub, List.replicate_succ, List.replicate_zero, List.cons_append, List.nil_append]
  simp only [Ty.cells_eq T, List.cons_append, List.nil_append]
  refine AWp_seqK fun Y0 y0 => ?_
  refine AWp_region ?_
  simp only [↓bO, go_sem, seval]
  refine y0 _ ?_
  try clear y0 Y0
  refine AWp_seqK fun Y0 y0 => ?_
  refine AWp_seqK fun Y1 y1 => ?_
  refine AWp_region ?_
  refine aops_chunk 1 fun Q0 q0 => ?_
  simp only [↓bO, go_sem, seval]
  refine q0 _ ?_
  clear q0 Q0
  simp only [go_sem]
  refine aops_chunk 1 fun Q0 q0 => ?_
  simp only [↓bO, go_sem, seval]
  refine APure.call (by have h9 := Right_pure T; rw [Ty.cells_eq T] at h9; exact h9) ?_
  try simp only [bS, bA, thenQ, blockQ, noGotoQ]
  refine q0 _ ?_
  clear q0 Q0
  simp only [go_sem]
  simp only [↓bO, go_sem, seval]
  refine y1 _ ?_
  try clear y1 Y1
  refine AWp_cond rfl (fun hb5 => ?_) (fun hb5 => ?_)
  ·
   have hr : T.right = false := by simpa using hb5
   refine AWp_seqK fun Y1 y1 => ?_
   refine AWp_region ?_
   simp only [↓bO, go_sem, seval]
   refine y1 _ ?_
   try clear y1 Y1
   refine AWp_ret ?_
   try simp only [thenQ, blockQ, noGotoQ, retQ, aRes, tupOf, bS, bA]
   rw [ptx_no hr]
   exact Le.refl _
  ·
   have hr : T.right = true := by simpa using hb5
   refine AWp_skip ?_
   try simp only [thenQ, blockQ, noGotoQ]
   refine y0 _ ?_
   try clear y0 Y0
   refine AWp_seqK fun Y0 y0 => ?_
   refine AWp_region ?_
   refine aops_chunk 1 fun Q0 q0 => ?_
   simp only [↓bO, go_sem, seval]
   refine q0 _ ?_
   clear q0 Q0
   simp only [go_sem]
   refine aops_chunk 1 fun Q0 q0 => ?_
   simp only [↓bO, go_sem, seval]
   refine APure.call (by have h9 := TextR_pure T hr hc; rw [Ty.cells_eq T] at h9; exact h9) ?_
   try simp only [bS, bA, thenQ, blockQ, noGotoQ]
   refine q0 _ ?_
   clear q0 Q0
   simp only [go_sem]
   simp only [↓bO, go_sem, seval]
   refine y0 _ ?_
   try clear y0 Y0
   refine AWp_ret ?_
   try simp only [thenQ, blockQ, noGotoQ, retQ, aRes, tupOf, bS, bA]
   rw [ptx_yes hr]
   exact Le.refl _
def d10 : ByteArray := ⟨#[48, 49, 50, 51, 52, 53, 54, 55, 56, 57]⟩
def d26 : ByteArray := ⟨#[97, 98, 99, 100, 101, 102, 103, 104, 105, 106, 107, 108, 109, 110, 111, 112, 113, 114, 115, 116, 117, 118, 119, 120, 121, 122]⟩
theorem d10_at (k : Fin 10) : d10.extract k.val (k.val + 1) = ⟨#[UInt8.ofNat (48 + k.val)]⟩ := by revert k; decide
theorem d26_at (k : Fin 26) : d26.extract k.val (k.val + 1) = Utf8.encode (97 + (k.val : Int)) := by revert k; decide
theorem d10_ex {n : Nat} (h : n < 10) : d10.extract n (n + 1) = ⟨#[UInt8.ofNat (48 + n)]⟩ := d10_at ⟨n, h⟩
theorem itB_one {n : Nat} (h : n < 10) : itB (n : Int) = d10.extract n (n + 1) := by
  rw [d10_ex h]; unfold itB; rw [Lib.itoa_nonneg, Lib.decDigits_one h]
theorem itB_more {n : Nat} (h : ¬ n < 10) : itB (n : Int) = itB ((n / 10 : Nat) : Int) ++ d10.extract (n % 10) (n % 10 + 1) := by
  rw [d10_ex (by omega)]; unfold itB
  rw [Lib.itoa_nonneg, Lib.itoa_nonneg, Lib.decDigits, dif_neg h]
  apply ByteArray.ext
  simp [ByteArray.data_append]
theorem Digits1_pure (n : Nat) (hn : n < 1099511627776) (ih : ¬ n < 10 → APure Tryd.prog 57 [.v (.int .i64 (n / 10 : Nat))] (.v (.string (itB (n / 10 : Nat))))) : APure Tryd.prog 57 [.v (.int .i64 n)] (.v (.string (itB n))) := by
  refine APure.mkL (.cons (.v _) .nil) (.v _) ?_
  refine ACalls_intro Tryd.func57 (by kernel_rfl) rfl (by rw [Tryd.ntmps57]; simp) (fun hm => ?_)
  simp only [Tryd.ntmps57, Tryd.results57, List.length_cons, List.length_nil, Nat.reduceAdd, Nat.reduceSub, List.replicate_succ, List.replicate_zero, List.cons_append, List.nil_append]
  have ht : ((n : Int)).tdiv 10 = ((n / 10 : Nat) : Int) := by (rw [Int.tdiv_eq_ediv_of_nonneg (by omega)]; omega)
  have hm2 : ((n : Int)).tmod 10 = ((n % 10 : Nat) : Int) := by (rw [Int.tmod_eq_emod_of_nonneg (by omega)]; omega)
  have hw1 : IntKind.i64.wrap ((n : Int) + 1) = ((n + 1 : Nat) : Int) := by (rw [wrap_in (by omega) (by omega)]; omega)
  have hw2 : IntKind.i64.wrap (((n % 10 : Nat) : Int)) = ((n % 10 : Nat) : Int) := by (rw [wrap_in (by omega) (by omega)])
  have hw3 : IntKind.i64.wrap (((n % 10 : Nat) : Int) + 1) = ((n % 10 + 1 : Nat) : Int) := by (rw [wrap_in (by omega) (by omega)]; omega)
  have hw4 : IntKind.i64.wrap (((n / 10 : Nat) : Int)) = ((n / 10 : Nat) : Int) := by (rw [wrap_in (by omega) (by omega)])
  have h1 : ((n : Int) ≤ ((n + 1 : Nat) : Int)) = True := eq_true (by omega)
  have h2 : (((n % 10 : Nat) : Int) ≤ ((n % 10 + 1 : Nat) : Int)) = True := eq_true (by omega)
  have h3 : (((n % 10 + 1 : Nat) : Int) ≤ (((#[48, 49, 50, 51, 52, 53, 54, 55, 56, 57] : Array UInt8).size : Nat) : Int)) = True := eq_true (by (show ((n % 10 + 1 : Nat) : Int) ≤ 10); omega)
  have hz := itB_size ((n / 10 : Nat) : Int) (by omega) (by omega)
  have hz2 : ((⟨(#[48, 49, 50, 51, 52, 53, 54, 55, 56, 57] : Array UInt8)⟩ : ByteArray).extract (n % 10) ((n % 10) + 1)).size = 1 := by (show (d10.extract (n % 10) (n % 10 + 1)).size = 1; rw [d10_ex (by omega)]; rfl)
  have hz3 : (((itB ((n / 10 : Nat) : Int)).size + ((⟨(#[48, 49, 50, 51, 52, 53, 54, 55, 56, 57] : Array UInt8)⟩ : ByteArray).extract (n % 10) ((n % 10) + 1)).size : Nat) : Int) ≤ IntKind.i64.max ↔ True := iff_true_intro (by rw [hz2]; show (((itB ((n / 10 : Nat) : Int)).size + 1 : Nat) : Int) ≤ 9223372036854775807; omega)
  iterate 2 (refine AWp_seqK fun Y0 y0 => ?_; refine AWp_region ?_; simp only [↓bO, go_sem, seval, ht, hm2, hw1, hw2, hw3, hw4, h1, h2, h3, hz3]; refine y0 _ ?_; (try clear y0 Y0))
  refine AWp_seqK fun Y0 y0 => ?_
  refine AWp_seqK fun Y1 y1 => ?_
  refine AWp_region ?_
  refine aops_chunk 1 fun Q0 q0 => ?_
  simp only [↓bO, go_sem, seval, ht, hm2, hw1, hw2, hw3, hw4, h1, h2, h3, hz3]
  refine q0 _ ?_
  clear q0 Q0
  simp only [go_sem]
  simp only [↓bO, go_sem, seval, ht, hm2, hw1, hw2, hw3, hw4, h1, h2, h3, hz3]
  refine y1 _ ?_
  try clear y1 Y1
  refine AWp_cond rfl (fun hb5 => ?_) (fun hb5 => ?_)
  ·
   have hlt : n < 10 := by (have h9 := hb5; simp at h9; omega)
   have h4 : (((n + 1 : Nat) : Int) ≤ (((#[48, 49, 50, 51, 52, 53, 54, 55, 56, 57] : Array UInt8).size : Nat) : Int)) = True := eq_true (by (show ((n + 1 : Nat) : Int) ≤ 10); omega)
   refine AWp_seqK fun Y1 y1 => ?_
   refine AWp_region ?_
   iterate 5 (refine aops_chunk 1 fun Q0 q0 => ?_; simp only [↓bO, go_sem, seval, ht, hm2, hw1, hw2, hw3, hw4, h1, h2, h3, hz3, h4]; refine q0 _ ?_; clear q0 Q0; simp only [go_sem])
   simp only [↓bO, go_sem, seval, ht, hm2, hw1, hw2, hw3, hw4, h1, h2, h3, hz3, h4]
   refine y1 _ ?_
   try clear y1 Y1
   refine AWp_ret ?_
   try simp only [thenQ, blockQ, noGotoQ, retQ, aRes, tupOf, bS, bA]
   refine Le.of_eq (congrArg (fun s => AV.v (.string s)) ?_)
   rw [itB_one hlt]; rfl
  ·
   have hge : ¬ n < 10 := by (have h9 := hb5; simp at h9; omega)
   refine AWp_skip ?_
   try simp only [thenQ, blockQ, noGotoQ]
   refine y0 _ ?_
   try clear y0 Y0
   refine AWp_seqK fun Y0 y0 => ?_
   refine AWp_drawK 11 mixed (by kernel_rfl) fun J0 j0 => ?_
   iterate 2 (simp only [go_sem]; refine dRun_chunk 1 fun Q0 q0 => ?_; simp only [↓dRun, ↓dOp, ↓bO, go_sem, seval, ht, hm2, hw1, hw2, hw3, hw4, h1, h2, h3, hz3]; refine q0 _ ?_; clear q0 Q0)
   simp only [go_sem]
   refine dRun_chunk 1 fun Q0 q0 => ?_
   simp only [↓dRun, ↓dOp, ↓bO, go_sem, seval, ht, hm2, hw1, hw2, hw3, hw4, h1, h2, h3, hz3]
   refine ⟨_, ih hge, ?_⟩
   try simp only [bS, bA, thenQ, blockQ, noGotoQ]
   iterate 7 (refine q0 _ ?_; clear q0 Q0; simp only [go_sem]; refine dRun_chunk 1 fun Q0 q0 => ?_; simp only [↓dRun, ↓dOp, ↓bO, go_sem, seval, ht, hm2, hw1, hw2, hw3, hw4, h1, h2, h3, hz3])
   refine q0 _ ?_
   clear q0 Q0
   simp only [go_sem]
   simp only [↓dRun, ↓dOp, ↓bO, go_sem, seval, ht, hm2, hw1, hw2, hw3, hw4, h1, h2, h3, hz3]
   refine j0 _ ?_
   clear j0 J0
   simp only [go_sem]
   simp only [↓bO, go_sem, seval, ht, hm2, hw1, hw2, hw3, hw4, h1, h2, h3, hz3]
   refine y0 _ ?_
   try clear y0 Y0
   refine AWp_ret ?_
   try simp only [thenQ, blockQ, noGotoQ, retQ, aRes, tupOf, bS, bA]
   refine Le.of_eq (congrArg (fun s => AV.v (.string s)) ?_)
   rw [itB_more hge]; rfl
theorem Digits_pure (n : Nat) (hn : n < 1099511627776) : APure Tryd.prog 57 [.v (.int .i64 n)] (.v (.string (itB n))) := by
  revert hn
  induction n using Nat.strongRecOn with
  | _ n ih => intro hn; exact Digits1_pure n hn fun h => ih (n / 10) (by omega) (by omega)
theorem nmB_one {n : Nat} (h : n < 26) : nmB (n : Int) = (⟨#[39]⟩ : ByteArray) ++ d26.extract (n % 26) (n % 26 + 1) := by
  have h1 := d26_at ⟨n % 26, by omega⟩
  have e : (((n % 26 : Nat)) : Int) = (n : Int) % 26 := by omega
  unfold nmB nmH
  rw [if_neg (by omega), h1]
  simp only [e]
theorem nmB_more {n : Nat} (h : ¬ n < 26) : nmB (n : Int) = (⟨#[39]⟩ : ByteArray) ++ d26.extract (n % 26) (n % 26 + 1) ++ itB ((n / 26 : Nat) : Int) := by
  have h1 := d26_at ⟨n % 26, by omega⟩
  have e : (((n % 26 : Nat)) : Int) = (n : Int) % 26 := by omega
  have e2 : (((n / 26 : Nat)) : Int) = (n : Int) / 26 := by omega
  unfold nmB nmH
  rw [if_pos (by omega), h1]
  simp only [e, e2]
theorem d26_size (n : Nat) : (d26.extract (n % 26) (n % 26 + 1)).size = 1 := by
  have h1 := d26_at ⟨n % 26, by omega⟩
  have h2 := nmH_size (n : Int)
  have e : (((n % 26 : Nat)) : Int) = (n : Int) % 26 := by omega
  simp only [e] at h1
  unfold nmH at h2
  rw [ByteArray.size_append, ← h1] at h2
  have h3 : (⟨#[39]⟩ : ByteArray).size = 1 := rfl
  omega
theorem RName_pure (n : Nat) (hn : n < 1073741824) : APure Tryd.prog 32 [.v (.int .i64 n)] (.v (.string (nmB n))) := by
  refine APure.mkL (.cons (.v _) .nil) (.v _) ?_
  refine ACalls_intro Tryd.func32 (by kernel_rfl) rfl (by rw [Tryd.ntmps32]; simp) (fun hm => ?_)
  simp only [Tryd.ntmps32, Tryd.results32, List.length_cons, List.length_nil, Nat.reduceAdd, Nat.reduceSub, List.replicate_succ, List.replicate_zero, List.cons_append, List.nil_append]
  have ht : ((n : Int)).tdiv 26 = ((n / 26 : Nat) : Int) := by (rw [Int.tdiv_eq_ediv_of_nonneg (by omega)]; omega)
  have hm2 : ((n : Int)).tmod 26 = ((n % 26 : Nat) : Int) := by (rw [Int.tmod_eq_emod_of_nonneg (by omega)]; omega)
  have hw2 : IntKind.i64.wrap (((n % 26 : Nat) : Int)) = ((n % 26 : Nat) : Int) := by (rw [wrap_in (by omega) (by omega)])
  have hw3 : IntKind.i64.wrap (((n % 26 : Nat) : Int) + 1) = ((n % 26 + 1 : Nat) : Int) := by (rw [wrap_in (by omega) (by omega)]; omega)
  have hw4 : IntKind.i64.wrap (((n / 26 : Nat) : Int)) = ((n / 26 : Nat) : Int) := by (rw [wrap_in (by omega) (by omega)])
  have h2 : (((n % 26 : Nat) : Int) ≤ ((n % 26 + 1 : Nat) : Int)) = True := eq_true (by omega)
  have h3 : (((n % 26 + 1 : Nat) : Int) ≤ (((#[97, 98, 99, 100, 101, 102, 103, 104, 105, 106, 107, 108, 109, 110, 111, 112, 113, 114, 115, 116, 117, 118, 119, 120, 121, 122] : Array UInt8).size : Nat) : Int)) = True := eq_true (by (show ((n % 26 + 1 : Nat) : Int) ≤ 26); omega)
  have hz := itB_size ((n / 26 : Nat) : Int) (by omega) (by omega)
  have hz2 : ((⟨(#[97, 98, 99, 100, 101, 102, 103, 104, 105, 106, 107, 108, 109, 110, 111, 112, 113, 114, 115, 116, 117, 118, 119, 120, 121, 122] : Array UInt8)⟩ : ByteArray).extract (n % 26) (n % 26 + 1)).size = 1 := d26_size n
  have hz3 : ((((#[39] : Array UInt8).size + ((⟨(#[97, 98, 99, 100, 101, 102, 103, 104, 105, 106, 107, 108, 109, 110, 111, 112, 113, 114, 115, 116, 117, 118, 119, 120, 121, 122] : Array UInt8)⟩ : ByteArray).extract (n % 26) (n % 26 + 1)).size : Nat) : Int) ≤ IntKind.i64.max) = True := eq_true (by rw [hz2]; show ((1 + 1 : Nat) : Int) ≤ 9223372036854775807; omega)
  have hz4 : ((((#[39] : Array UInt8).size + ((⟨(#[97, 98, 99, 100, 101, 102, 103, 104, 105, 106, 107, 108, 109, 110, 111, 112, 113, 114, 115, 116, 117, 118, 119, 120, 121, 122] : Array UInt8)⟩ : ByteArray).extract (n % 26) (n % 26 + 1)).size + (itB ((n / 26 : Nat) : Int)).size : Nat) : Int) ≤ IntKind.i64.max) = True := eq_true (by rw [hz2]; show ((1 + 1 + (itB ((n / 26 : Nat) : Int)).size : Nat) : Int) ≤ 9223372036854775807; omega)
  iterate 2 (refine AWp_seqK fun Y0 y0 => ?_; refine AWp_region ?_; simp only [↓bO, go_sem, seval, ht, hm2, hw2, hw3, hw4, h2, h3, hz3, hz4]; refine y0 _ ?_; (try clear y0 Y0))
  refine AWp_seqK fun Y0 y0 => ?_
  refine AWp_seqK fun Y1 y1 => ?_
  refine AWp_region ?_
  iterate 3 (refine aops_chunk 1 fun Q0 q0 => ?_; simp only [↓bO, go_sem, seval, ht, hm2, hw2, hw3, hw4, h2, h3, hz3, hz4]; refine q0 _ ?_; clear q0 Q0; simp only [go_sem])
  refine aops_case 7 rfl (fun hc7 => ?_) (fun hc7 => ?_)
  ·
   simp only [List.set_cons_zero, List.set_cons_succ]
   exact absurd hc7 (by simp)
  ·
   simp only [List.set_cons_zero, List.set_cons_succ]
   iterate 2 (refine aops_chunk 1 fun Q0 q0 => ?_; simp only [↓bO, go_sem, seval, ht, hm2, hw2, hw3, hw4, h2, h3, hz3, hz4]; refine q0 _ ?_; clear q0 Q0; simp only [go_sem])
   simp only [↓bO, go_sem, seval, ht, hm2, hw2, hw3, hw4, h2, h3, hz3, hz4]
   refine y1 _ ?_
   try clear y1 Y1
   refine AWp_cond rfl (fun hb10 => ?_) (fun hb10 => ?_)
   ·
    exact absurd hb10 (by simp; omega)
   ·
    refine AWp_skip ?_
    try simp only [thenQ, blockQ, noGotoQ]
    refine y0 _ ?_
    try clear y0 Y0
    refine AWp_seqK fun Y0 y0 => ?_
    refine AWp_region ?_
    iterate 8 (refine aops_chunk 1 fun Q0 q0 => ?_; simp only [↓bO, go_sem, seval, ht, hm2, hw2, hw3, hw4, h2, h3, hz3, hz4]; refine q0 _ ?_; clear q0 Q0; simp only [go_sem])
    simp only [↓bO, go_sem, seval, ht, hm2, hw2, hw3, hw4, h2, h3, hz3, hz4]
    refine y0 _ ?_
    try clear y0 Y0
    refine AWp_seqK fun Y0 y0 => ?_
    refine AWp_seqK fun Y1 y1 => ?_
    refine AWp_region ?_
    refine aops_chunk 1 fun Q0 q0 => ?_
    simp only [↓bO, go_sem, seval, ht, hm2, hw2, hw3, hw4, h2, h3, hz3, hz4]
    refine q0 _ ?_
    clear q0 Q0
    simp only [go_sem]
    simp only [↓bO, go_sem, seval, ht, hm2, hw2, hw3, hw4, h2, h3, hz3, hz4]
    refine y1 _ ?_
    try clear y1 Y1
    refine AWp_cond rfl (fun hb20 => ?_) (fun hb20 => ?_)
    ·
     have hlt : n < 26 := by (have h9 := hb20; simp at h9; omega)
     refine AWp_seqK fun Y1 y1 => ?_
     refine AWp_region ?_
     refine aops_chunk 1 fun Q0 q0 => ?_
     simp only [↓bO, go_sem, seval, ht, hm2, hw2, hw3, hw4, h2, h3, hz3, hz4]
     refine q0 _ ?_
     clear q0 Q0
     simp only [go_sem]
     simp only [↓bO, go_sem, seval, ht, hm2, hw2, hw3, hw4, h2, h3, hz3, hz4]
     refine y1 _ ?_
     try clear y1 Y1
     refine AWp_ret ?_
     try simp only [thenQ, blockQ, noGotoQ, retQ, aRes, tupOf, bS, bA]
     refine Le.of_eq (congrArg (fun s => AV.v (.string s)) ?_)
     rw [nmB_one hlt]; rfl
    ·
     have hge : ¬ n < 26 := by (have h9 := hb20; simp at h9; omega)
     refine AWp_skip ?_
     try simp only [thenQ, blockQ, noGotoQ]
     refine y0 _ ?_
     try clear y0 Y0
     refine AWp_seqK fun Y0 y0 => ?_
     refine AWp_region ?_
     iterate 3 (refine aops_chunk 1 fun Q0 q0 => ?_; simp only [↓bO, go_sem, seval, ht, hm2, hw2, hw3, hw4, h2, h3, hz3, hz4]; refine q0 _ ?_; clear q0 Q0; simp only [go_sem])
     refine aops_chunk 1 fun Q0 q0 => ?_
     simp only [↓bO, go_sem, seval, ht, hm2, hw2, hw3, hw4, h2, h3, hz3, hz4]
     refine APure.call (Digits_pure (n / 26) (by omega)) ?_
     try simp only [bS, bA, thenQ, blockQ, noGotoQ]
     refine q0 _ ?_
     clear q0 Q0
     simp only [go_sem]
     refine aops_chunk 1 fun Q0 q0 => ?_
     simp only [↓bO, go_sem, seval, ht, hm2, hw2, hw3, hw4, h2, h3, hz3, hz4]
     refine q0 _ ?_
     clear q0 Q0
     simp only [go_sem]
     simp only [↓bO, go_sem, seval, ht, hm2, hw2, hw3, hw4, h2, h3, hz3, hz4]
     refine y0 _ ?_
     try clear y0 Y0
     refine AWp_ret ?_
     try simp only [thenQ, blockQ, noGotoQ, retQ, aRes, tupOf, bS, bA]
     refine Le.of_eq (congrArg (fun s => AV.v (.string s)) ?_)
     rw [nmB_more hge]; rfl
end Go.Proofs.YtkokfdmggdhfmaaDoor
namespace Go.Proofs.YtkokfdmggdhfmaaDoor
open Go Go.RowKit
set_option linter.unusedSimpArgs false
set_option linter.unnecessarySimpa false
set_option linter.unusedVariables false
abbrev bl (s : ByteArray) : List UInt8 := s.data.toList
theorem bl_len (s : ByteArray) : (bl s).length = s.size := Array.length_toList
theorem bl_app (a b : ByteArray) : bl (a ++ b) = bl a ++ bl b := by simp [bl, ByteArray.data_append]
theorem bt_at {s : ByteArray} {P S : List UInt8} {c : UInt8} (h : bl s = P ++ c :: S) : P.length < s.size ∧ bt s P.length = c.toNat := by
  have hl : P.length < s.size := by rw [← bl_len, h]; simp
  refine ⟨hl, ?_⟩
  have h1 := byte_at hl
  have h2 : (bl s)[P.length]? = some c := by rw [h]; simp
  unfold bt
  rw [show s.data.toList = bl s from rfl, h2] at h1
  rw [← Option.some.inj h1]
theorem ex_at {s : ByteArray} {P X S : List UInt8} (h : bl s = P ++ (X ++ S)) : s.extract P.length (P.length + X.length) = ⟨X.toArray⟩ := by
  have h1 : bl (s.extract P.length (P.length + X.length)) = X := by
    simp only [bl, ByteArray.data_extract, Array.toList_extract, List.extract_eq_take_drop]
    rw [show s.data.toList = bl s from rfl, h]
    simp
  have h2 : (s.extract P.length (P.length + X.length)).data = X.toArray := Array.ext' h1
  exact congrArg ByteArray.mk h2
def Wst (s : ByteArray) (i j : Nat) (ts : List Vw) : Prop := ∀ (f : Nat) (out : List Tok), s.size - i < f → ∃ f' out', s.size - j < f' ∧ out'.map vw = out.map vw ++ ts ∧ wdF s f i out = wdF s f' j out'
variable {s : ByteArray}
theorem joinTail_cons (sep x : List UInt8) (r : List (List UInt8)) : Lib.joinTail sep (x :: r) = sep ++ (x ++ Lib.joinTail sep r) := by simp [Lib.joinTail]
theorem bl_join (p : Ty) (qs : List Ty) : bl (joinB ((p :: qs).map Ty.btx) bSt) = bl p.btx ++ Lib.joinTail (bl bSt) ((qs.map Ty.btx).map bl) := by
  show Lib.join ((((p :: qs).map Ty.btx)).map (·.data.toList)) bSt.data.toList = _
  rw [List.map_cons, List.map_cons, Lib.join_cons]
end Go.Proofs.YtkokfdmggdhfmaaDoor
namespace Go.Proofs.YtkokfdmggdhfmaaDoor
open Go Go.RowKit
set_option maxRecDepth 100000
set_option maxHeartbeats 4000000
set_option linter.unusedSimpArgs false
set_option linter.unnecessarySimpa false
set_option linter.unusedVariables false
attribute [local irreducible] aops dRun
def sepT (T : Ty) : ByteArray := if T.k = 5 then bSt else bAr
def ptT (T : Ty) (i : Nat) (p : Ty) : ByteArray := if p.k = 4 ∧ (T.k = 5 ∨ i = 0) then bLp ++ p.tx ++ bRp else p.tx
def accT (T : Ty) : Nat → ByteArray
  | 0 => ByteArray.empty
  | s + 1 => match T.ps[s]? with
    | some p => (if 0 < s then accT T s ++ sepT T else accT T s) ++ ptT T s p
    | none => accT T s
theorem accT_step {T : Ty} {s : Nat} {p : Ty} (hp : T.ps[s]? = some p) : accT T (s + 1) = (if 0 < s then accT T s ++ sepT T else accT T s) ++ ptT T s p := by rw [accT, hp]
theorem sepT_size (T : Ty) : (sepT T).size ≤ 4 := by unfold sepT; split <;> decide
theorem ptT_size (T : Ty) (i : Nat) (p : Ty) : (ptT T i p).size ≤ p.tx.size + 2 := by
  unfold ptT; split
  · rw [ByteArray.size_append, ByteArray.size_append]
    have e1 : bLp.size = 1 := rfl
    have e2 : bRp.size = 1 := rfl
    omega
  · omega
theorem accT_size {T : Ty} (hr : T.right = true) : ∀ s, s ≤ T.ps.length → (accT T s).size ≤ 40 * Ty.cntL (T.ps.take s)
  | 0, _ => by simp [accT, Ty.cntL]
  | s + 1, h => by
    obtain ⟨p, hp⟩ : ∃ p, T.ps[s]? = some p := ⟨_, List.getElem?_eq_getElem (by omega)⟩
    have h1 := accT_size hr s (by omega)
    have h2 := ptT_size T s p
    have h3 := right_tx (right_part hr p (List.mem_of_getElem? hp))
    have h4 := sepT_size T
    have h5 := Ty.cntL_take hp
    have h6 := cnt_pos' p
    rw [accT_step hp, ByteArray.size_append]
    split
    · rw [ByteArray.size_append]; omega
    · omega
theorem emp_app (x : ByteArray) : ByteArray.empty ++ x = x := by apply ByteArray.ext; simp [ByteArray.data_append]
theorem accT_four {T a b : Ty} (hk : T.k = 4) (hps : T.ps = [a, b]) : accT T 2 = T.tx := by
  have h5 : ¬ T.k = 5 := by omega
  have h1 : T.ps[0]? = some a := by rw [hps]; rfl
  have h2 : T.ps[1]? = some b := by rw [hps]; rfl
  have etx : T.tx = a.btx ++ bAr ++ b.tx := by
    rw [T.tx_eq, if_neg (by omega), if_neg (by omega), if_neg (by omega), if_pos hk, hps]
  rw [accT_step h2, accT_step h1, etx]
  simp only [accT, Nat.lt_irrefl, if_false, emp_app, Nat.zero_lt_one, if_true]
  unfold sepT ptT Ty.btx brB
  rw [if_neg h5, if_neg (show ¬ (b.k = 4 ∧ (T.k = 5 ∨ 1 = 0)) by omega)]
  by_cases ha : a.k = 4
  · rw [if_pos ⟨ha, .inr rfl⟩, if_pos (by simpa using ha)]
  · rw [if_neg fun h => ha h.1, if_neg (by simpa using ha)]
theorem accT_five {T : Ty} (hk : T.k = 5) : ∀ s, s < T.ps.length → accT T (s + 1) = joinB ((T.ps.take (s + 1)).map Ty.btx) bSt
  | 0, h => by
    obtain ⟨p, hp⟩ : ∃ p, T.ps[0]? = some p := ⟨_, List.getElem?_eq_getElem (by omega)⟩
    have e : T.ps.take 1 = [p] := by
      cases hps : T.ps with
      | nil => rw [hps] at hp; cases hp
      | cons q qs => rw [hps] at hp; cases hp; rfl
    rw [accT_step hp, e]
    have h1 : ptT T 0 p = p.btx := by
      unfold ptT Ty.btx brB
      by_cases ha : p.k = 4
      · rw [if_pos ⟨ha, .inr rfl⟩, if_pos (by simpa using ha)]
      · rw [if_neg fun h => ha h.1, if_neg (by simpa using ha)]
    rw [h1]
    simp only [accT, Nat.lt_irrefl, if_false, emp_app, List.map_cons, List.map_nil]
    apply ByteArray.ext
    show _ = (Lib.join [p.btx.data.toList] bSt.data.toList).toArray
    rw [Lib.join_one]
  | s + 1, h => by
    obtain ⟨p, hp⟩ : ∃ p, T.ps[s + 1]? = some p := ⟨_, List.getElem?_eq_getElem (by omega)⟩
    have ih := accT_five hk s (by omega)
    obtain ⟨q, qs, hq⟩ : ∃ q qs, T.ps = q :: qs := by
      cases hps : T.ps with
      | nil => rw [hps] at h; simp at h
      | cons q qs => exact ⟨q, qs, rfl⟩
    have hp2 : qs[s]? = some p := by rw [hq] at hp; simpa using hp
    rw [accT_step hp, ih]
    have h1 : ptT T (s + 1) p = p.btx := by
      unfold ptT Ty.btx brB
      by_cases ha : p.k = 4
      · rw [if_pos ⟨ha, .inl hk⟩, if_pos (by simpa using ha)]
      · rw [if_neg fun h => ha h.1, if_neg (by simpa using ha)]
    rw [h1, if_pos (by omega)]
    unfold sepT
    rw [if_pos hk, hq]
    simp only [List.take_succ_cons]
    apply ByteArray.ext
    apply Array.ext'
    have j1 := bl_join q (qs.take s)
    have j2 := bl_join q (qs.take (s + 1))
    simp only [ByteArray.data_append, Array.toList_append]
    have e1 : (joinB (List.map Ty.btx (q :: List.take s qs)) bSt).data.toList = bl (joinB (List.map Ty.btx (q :: List.take s qs)) bSt) := rfl
    have e2 : (joinB (List.map Ty.btx (q :: List.take (s + 1) qs)) bSt).data.toList = bl (joinB (List.map Ty.btx (q :: List.take (s + 1) qs)) bSt) := rfl
    rw [e1, e2, j1, j2, List.take_add_one, hp2]
    simp [Lib.joinTail, bl]
theorem accT0 (T : Ty) : accT T 0 = ⟨#[]⟩ := rfl
def preT (T : Ty) (s : Nat) : ByteArray := if 0 < s then accT T s ++ sepT T else accT T s
theorem accT_pre {T : Ty} {s : Nat} {p : Ty} (hp : T.ps[s]? = some p) : accT T (s + 1) = preT T s ++ ptT T s p := accT_step hp
theorem cntL_take_le : ∀ (ps : List Ty) (s : Nat), Ty.cntL (ps.take s) ≤ Ty.cntL ps
  | [], s => by simp [Ty.cntL]
  | p :: ps, 0 => by simp [Ty.cntL]
  | p :: ps, s + 1 => by
    have := cntL_take_le ps s
    simp only [List.take_succ_cons, Ty.cntL]; omega
theorem preT_size (T : Ty) (s : Nat) : (preT T s).size ≤ (accT T s).size + 4 := by
  have := sepT_size T
  unfold preT; split
  · rw [ByteArray.size_append]; omega
  · omega
theorem text_end {T : Ty} (hr : T.right = true) (hk1 : ¬ T.k = 1) (hk2 : ¬ T.k = 2) (hk3 : ¬ T.k = 3) : (T.k = 5 → bLp ++ accT T T.ps.length ++ bRp = T.tx) ∧ (¬ T.k = 5 → accT T T.ps.length = T.tx) := by
  have hok := right_ok hr
  constructor
  · intro hk
    have h2 : 2 ≤ T.ps.length := by omega
    have h3 := accT_five hk (T.ps.length - 1) (by omega)
    rw [show T.ps.length - 1 + 1 = T.ps.length by omega, List.take_length] at h3
    rw [h3, T.tx_eq, if_neg hk1, if_neg hk2, if_neg hk3, if_neg (by omega)]
  · intro hk
    have hk4 : T.k = 4 := by omega
    obtain ⟨a, b, hps⟩ := right_four hr hk4
    have h3 := accT_four hk4 hps
    rw [hps]; exact h3
theorem RText_pure : ∀ (T : Ty) (hr : T.right = true) (hc : T.cnt ≤ 1048576), APure Tryd.prog 19 [.agg T.cells] (.v (.string T.tx)) := by
  refine Ty.ind fun T ih => ?_
  intro hr hc
  refine APure.mkL (.cons T.dataAgg .nil) (.v _) ?_
  refine ACalls_intro Tryd.func19 (by kernel_rfl) rfl (by rw [Tryd.ntmps19]; simp) (fun hm => ?_)
  simp only [Tryd.ntmps19, Tryd.results19, List.length_cons, List.length_nil, Nat.reduceAdd, Nat.reduceSub, List.replicate_succ, List.replicate_zero, List.cons_append, List.nil_append]
  have hcn := T.cnt_eq
  have hcl := Ty.cntL_len T.ps
  simp only [Ty.cells_eq T, List.cons_append, List.nil_append]
  have hgp0 := right_part hr
  refine AWp_seqK fun Y0 y0 => ?_
  refine AWp_region ?_
  refine aops_chunk 1 fun Q0 q0 => ?_
  simp only [↓bO, go_sem, seval]
  refine q0 _ ?_
  clear q0 Q0
  simp only [go_sem]
  simp only [↓bO, go_sem, seval]
  refine y0 _ ?_
  try clear y0 Y0
  refine AWp_seqK fun Y0 y0 => ?_
  refine AWp_seqK fun Y1 y1 => ?_
  refine AWp_region ?_
  refine aops_chunk 1 fun Q0 q0 => ?_
  simp only [↓bO, go_sem, seval]
  refine q0 _ ?_
  clear q0 Q0
  simp only [go_sem]
  simp only [↓bO, go_sem, seval]
  refine y1 _ ?_
  try clear y1 Y1
  refine AWp_block ?_
  refine AWp_seqK fun Y1 y1 => ?_
  refine AWp_region ?_
  refine aops_chunk 1 fun Q0 q0 => ?_
  simp only [↓bO, go_sem, seval]
  refine q0 _ ?_
  clear q0 Q0
  simp only [go_sem]
  simp only [↓bO, go_sem, seval]
  refine y1 _ ?_
  try clear y1 Y1
  refine AWp_cond rfl (fun hb9 => ?_) (fun hb9 => ?_)
  ·
   have hk1 : T.k = 1 := by simpa using hb9
   have hvn := right_var hr hk1
   refine AWp_seqK fun Y1 y1 => ?_
   refine AWp_region ?_
   iterate 2 (refine aops_chunk 1 fun Q0 q0 => ?_; simp only [↓bO, go_sem, seval]; refine q0 _ ?_; clear q0 Q0; simp only [go_sem])
   refine aops_chunk 1 fun Q0 q0 => ?_
   simp only [↓bO, go_sem, seval]
   refine APure.call (by have h9 := RName_pure T.n.toNat (by omega); rw [show ((T.n.toNat : Nat) : Int) = T.n by omega] at h9; exact h9) ?_
   try simp only [bS, bA, thenQ, blockQ, noGotoQ]
   refine q0 _ ?_
   clear q0 Q0
   simp only [go_sem]
   simp only [↓bO, go_sem, seval]
   refine y1 _ ?_
   try clear y1 Y1
   refine AWp_ret ?_
   try simp only [thenQ, blockQ, noGotoQ, retQ, aRes, tupOf, bS, bA]
   refine Le.of_eq (congrArg (fun s => AV.v (.string s)) ?_)
   rw [T.tx_eq, if_pos hk1]
  ·
   have hk1 : ¬ T.k = 1 := by simpa using hb9
   refine AWp_seqK fun Y1 y1 => ?_
   refine AWp_region ?_
   refine aops_chunk 1 fun Q0 q0 => ?_
   simp only [↓bO, go_sem, seval]
   refine q0 _ ?_
   clear q0 Q0
   simp only [go_sem]
   simp only [↓bO, go_sem, seval]
   refine y1 _ ?_
   try clear y1 Y1
   refine AWp_cond rfl (fun hb14 => ?_) (fun hb14 => ?_)
   ·
    have hk2 : T.k = 2 := by simpa using hb14
    refine AWp_seqK fun Y1 y1 => ?_
    refine AWp_region ?_
    simp only [↓bO, go_sem, seval]
    refine y1 _ ?_
    try clear y1 Y1
    refine AWp_ret ?_
    try simp only [thenQ, blockQ, noGotoQ, retQ, aRes, tupOf, bS, bA]
    refine Le.of_eq (congrArg (fun s => AV.v (.string s)) ?_)
    rw [T.tx_eq, if_neg hk1, if_pos hk2]
   ·
    have hk2 : ¬ T.k = 2 := by simpa using hb14
    refine AWp_seqK fun Y1 y1 => ?_
    refine AWp_region ?_
    refine aops_chunk 1 fun Q0 q0 => ?_
    simp only [↓bO, go_sem, seval]
    refine q0 _ ?_
    clear q0 Q0
    simp only [go_sem]
    simp only [↓bO, go_sem, seval]
    refine y1 _ ?_
    try clear y1 Y1
    refine AWp_cond rfl (fun hb16 => ?_) (fun hb16 => ?_)
    ·
     have hk3 : T.k = 3 := by simpa using hb16
     refine AWp_seqK fun Y1 y1 => ?_
     refine AWp_region ?_
     simp only [↓bO, go_sem, seval]
     refine y1 _ ?_
     try clear y1 Y1
     refine AWp_ret ?_
     try simp only [thenQ, blockQ, noGotoQ, retQ, aRes, tupOf, bS, bA]
     refine Le.of_eq (congrArg (fun s => AV.v (.string s)) ?_)
     rw [T.tx_eq, if_neg hk1, if_neg hk2, if_pos hk3]
    ·
     have hk3 : ¬ T.k = 3 := by simpa using hb16
     have hte := text_end hr hk1 hk2 hk3
     refine AWp_skip ?_
     try simp only [thenQ, blockQ, noGotoQ]
     refine y0 _ ?_
     try clear y0 Y0
     refine AWp_seqK fun Y0 y0 => ?_
     refine AWp_region ?_
     refine aops_chunk 1 fun Q0 q0 => ?_
     simp only [↓bO, go_sem, seval]
     refine q0 _ ?_
     clear q0 Q0
     simp only [go_sem]
     simp only [↓bO, go_sem, seval]
     refine y0 _ ?_
     try clear y0 Y0
     refine AWp_joinM (mB 68 26) ([(3, .v (.string (sepT T)))]) ([]) ?_ ?_
     ·
      refine AWp_seqK fun Y0 y0 => ?_
      refine AWp_region ?_
      iterate 2 (refine aops_chunk 1 fun Q0 q0 => ?_; simp only [↓bO, go_sem, seval]; refine q0 _ ?_; clear q0 Q0; simp only [go_sem])
      simp only [↓bO, go_sem, seval]
      refine y0 _ ?_
      try clear y0 Y0
      refine AWp_cond rfl (fun hb20 => ?_) (fun hb20 => ?_)
      ·
       refine AWp_region ?_
       simp only [↓bO, go_sem, seval]
       try simp only [maskL, setsL, putsO, putO, mB, List.set_cons_zero, List.set_cons_succ, seval]
       unfold sepT
       first | rw [if_pos (show T.k = 5 by simpa using hb20)] | rw [if_neg (show ¬ T.k = 5 by simpa using hb20)]
       simp only [bSt, bAr]
       exact Weak.mk (by simp only [go_sem, Le.refl, Le.any, LeL, and_self]) (fun _ _ h => h) rfl rfl
      ·
       refine AWp_skip ?_
       try simp only [thenQ, blockQ, noGotoQ]
       try simp only [maskL, setsL, putsO, putO, mB, List.set_cons_zero, List.set_cons_succ, seval]
       unfold sepT
       first | rw [if_pos (show T.k = 5 by simpa using hb20)] | rw [if_neg (show ¬ T.k = 5 by simpa using hb20)]
       simp only [bSt, bAr]
       exact Weak.mk (by simp only [go_sem, Le.refl, Le.any, LeL, and_self]) (fun _ _ h => h) rfl rfl
     simp only [maskL, setsL, putsO, putO, mB, List.set_cons_zero, List.set_cons_succ, seval]
     refine AWp_seqK fun Y0 y0 => ?_
     refine AWp_seqK fun Y1 y1 => ?_
     refine AWp_region ?_
     simp only [↓bO, go_sem, seval]
     refine y1 _ ?_
     try clear y1 Y1
     refine AWp_block ?_
     refine AWp_loopM (σ := Nat) (mB 68 58) (fun s => s ≤ T.ps.length) (fun s => [(4, .v (.string (accT T s))), (5, .v (.int .i64 (s : Int)))]) (fun s => []) (fun s => T.ps.length - s) 0 (by omega) ?_ (fun s hs => ?_)
     ·
      try simp only [maskL, setsL, putsO, putO, mB, List.set_cons_zero, List.set_cons_succ, seval, accT0]
      exact Weak.mk (by simp only [go_sem, Le.refl, Le.any, Le.slNil, Int.natCast_add, Int.cast_ofNat_Int, Int.natCast_one]) (fun _ _ h => h) rfl rfl
     simp only [maskL, setsL, putsO, putO, mB, List.set_cons_zero, List.set_cons_succ, seval]
     have has := accT_size hr s hs
     have htl := cntL_take_le T.ps s
     have hps2 := preT_size T s
     have hse := sepT_size T
     have hz1 : ((((accT T s).size + (sepT T).size : Nat) : Int) ≤ IntKind.i64.max) = True := eq_true (by ( show (((accT T s).size + (sepT T).size : Nat) : Int) ≤ 9223372036854775807); omega)
     have hz4 : ((((#[40] : Array UInt8).size + (accT T s).size : Nat) : Int) ≤ IntKind.i64.max) = True := eq_true (by ( show ((1 + (accT T s).size : Nat) : Int) ≤ 9223372036854775807); omega)
     have hz5 : ((((#[40] : Array UInt8).size + (accT T s).size + (#[41] : Array UInt8).size : Nat) : Int) ≤ IntKind.i64.max) = True := eq_true (by ( show ((1 + (accT T s).size + 1 : Nat) : Int) ≤ 9223372036854775807); omega)
     refine AWp_seqK fun Y1 y1 => ?_
     refine AWp_seqK fun Y2 y2 => ?_
     refine AWp_region ?_
     iterate 4 (refine aops_chunk 1 fun Q0 q0 => ?_; simp only [↓bO, go_sem, seval]; refine q0 _ ?_; clear q0 Q0; simp only [go_sem])
     simp only [↓bO, go_sem, seval]
     refine y2 _ ?_
     try clear y2 Y2
     refine AWp_cond rfl (fun hb25 => ?_) (fun hb25 => ?_)
     ·
      have hk : s < T.ps.length := by (have h9 := hb25; simp at h9; omega)
      obtain ⟨p, hp⟩ : ∃ p, T.ps[s]? = some p := ⟨_, List.getElem?_eq_getElem hk⟩
      have hgp := hgp0 p (List.mem_of_getElem? hp)
      have hpc := cntL_part (List.mem_of_getElem? hp)
      have hsp := right_tx hgp
      have hpz := ptT_size T s p
      have hw : IntKind.i64.wrap ((s : Int) + 1) = (s : Int) + 1 := wrap_in (by omega) (by omega)
      have hz2 : ((((#[40] : Array UInt8).size + p.tx.size : Nat) : Int) ≤ IntKind.i64.max) = True := eq_true (by ( show ((1 + p.tx.size : Nat) : Int) ≤ 9223372036854775807); omega)
      have hz3 : ((((#[40] : Array UInt8).size + p.tx.size + (#[41] : Array UInt8).size : Nat) : Int) ≤ IntKind.i64.max) = True := eq_true (by ( show ((1 + p.tx.size + 1 : Nat) : Int) ≤ 9223372036854775807); omega)
      have hz6 : ((((preT T s).size + (ptT T s p).size : Nat) : Int) ≤ IntKind.i64.max) = True := eq_true (by ( show (((preT T s).size + (ptT T s p).size : Nat) : Int) ≤ 9223372036854775807); omega)
      refine AWp_skip ?_
      try simp only [thenQ, blockQ, noGotoQ]
      refine y1 _ ?_
      try clear y1 Y1
      refine AWp_seqK fun Y1 y1 => ?_
      refine AWp_block ?_
      refine AWp_seqK fun Y2 y2 => ?_
      refine AWp_region ?_
      iterate 5 (refine aops_chunk 1 fun Q0 q0 => ?_; simp only [↓bO, go_sem, seval, hk, hz1, gM hp, hw, accT_pre hp, hz2, hz3, hz6]; refine q0 _ ?_; clear q0 Q0; simp only [go_sem])
      refine aops_chunk 1 fun Q0 q0 => ?_
      simp only [↓bO, go_sem, seval, hk, hz1, gM hp, hw, accT_pre hp, hz2, hz3, hz6]
      refine APure.call (ih p (List.mem_of_getElem? hp) hgp (by omega)) ?_
      try simp only [bS, bA, thenQ, blockQ, noGotoQ]
      refine q0 _ ?_
      clear q0 Q0
      simp only [go_sem]
      simp only [↓bO, go_sem, seval, hk, hz1, gM hp, hw, accT_pre hp, hz2, hz3, hz6]
      refine y2 _ ?_
      try clear y2 Y2
      refine AWp_joinM (mB 68 122) ([(6, .v (.string (ptT T s p)))]) ([]) ?_ ?_
      ·
       refine AWp_seqK fun Y2 y2 => ?_
       refine AWp_region ?_
       iterate 8 (refine aops_chunk 1 fun Q0 q0 => ?_; simp only [↓bO, go_sem, seval, hk, hz1, gM hp, hw, accT_pre hp, hz2, hz3, hz6]; refine q0 _ ?_; clear q0 Q0; simp only [go_sem])
       refine aops_case 41 rfl (fun hc41 => ?_) (fun hc41 => ?_)
       ·
        simp only [List.set_cons_zero, List.set_cons_succ]
        have hp4 : p.k = 4 := by (have h9 := hc41; simp at h9; exact h9)
        iterate 4 (refine aops_chunk 1 fun Q0 q0 => ?_; simp only [↓bO, go_sem, seval, hk, hz1, gM hp, hw, accT_pre hp, hz2, hz3, hz6]; refine q0 _ ?_; clear q0 Q0; simp only [go_sem])
        refine aops_case 45 rfl (fun hc45 => ?_) (fun hc45 => ?_)
        ·
         simp only [List.set_cons_zero, List.set_cons_succ]
         have hpt : ptT T s p = bLp ++ p.tx ++ bRp := by (unfold ptT; rw [if_pos ⟨hp4, .inl (by have h9 := hc45; simp at h9; exact h9)⟩])
         iterate 3 (refine aops_chunk 1 fun Q0 q0 => ?_; simp only [↓bO, go_sem, seval, hk, hz1, gM hp, hw, accT_pre hp, hz2, hz3, hz6]; refine q0 _ ?_; clear q0 Q0; simp only [go_sem])
         simp only [↓bO, go_sem, seval, hk, hz1, gM hp, hw, accT_pre hp, hz2, hz3, hz6]
         refine y2 _ ?_
         try clear y2 Y2
         refine AWp_cond (b := true) (by first | exact rfl | exact congrArg (fun b => AV.v (.bool b)) hb49) (fun _ => ?_) (fun h => (by cases h))
         refine AWp_region ?_
         iterate 3 (refine aops_chunk 1 fun Q0 q0 => ?_; simp only [↓bO, go_sem, seval, hk, hz1, gM hp, hw, accT_pre hp, hz2, hz3, hz6]; refine q0 _ ?_; clear q0 Q0; simp only [go_sem])
         simp only [↓bO, go_sem, seval, hk, hz1, gM hp, hw, accT_pre hp, hz2, hz3, hz6]
         try simp only [maskL, setsL, putsO, putO, mB, List.set_cons_zero, List.set_cons_succ, seval]
         rw [hpt]
         try simp only [bLp, bRp]
         exact Weak.mk (by simp only [go_sem, Le.refl, Le.any, LeL, and_self]) (fun _ _ h => h) rfl rfl
        ·
         simp only [List.set_cons_zero, List.set_cons_succ]
         have hT5 : ¬ T.k = 5 := by (have h9 := hc45; simp at h9; exact h9)
         iterate 3 (refine aops_chunk 1 fun Q0 q0 => ?_; simp only [↓bO, go_sem, seval, hk, hz1, gM hp, hw, accT_pre hp, hz2, hz3, hz6]; refine q0 _ ?_; clear q0 Q0; simp only [go_sem])
         simp only [↓bO, go_sem, seval, hk, hz1, gM hp, hw, accT_pre hp, hz2, hz3, hz6]
         refine y2 _ ?_
         try clear y2 Y2
         refine AWp_cond rfl (fun hb49 => ?_) (fun hb49 => ?_)
         ·
          have hpt : ptT T s p = bLp ++ p.tx ++ bRp := by (first | exact hpt | (unfold ptT; rw [if_pos ⟨hp4, .inr (by have h9 := hb49; simp at h9; exact h9)⟩]))
          refine AWp_region ?_
          iterate 3 (refine aops_chunk 1 fun Q0 q0 => ?_; simp only [↓bO, go_sem, seval, hk, hz1, gM hp, hw, accT_pre hp, hz2, hz3, hz6]; refine q0 _ ?_; clear q0 Q0; simp only [go_sem])
          simp only [↓bO, go_sem, seval, hk, hz1, gM hp, hw, accT_pre hp, hz2, hz3, hz6]
          try simp only [maskL, setsL, putsO, putO, mB, List.set_cons_zero, List.set_cons_succ, seval]
          rw [hpt]
          try simp only [bLp, bRp]
          exact Weak.mk (by simp only [go_sem, Le.refl, Le.any, LeL, and_self]) (fun _ _ h => h) rfl rfl
         ·
          have hpt : ptT T s p = p.tx := by (first | exact hpt | (unfold ptT; rw [if_neg fun h => h.2.elim hT5 (by have h9 := hb49; simp at h9; exact h9)]))
          refine AWp_skip ?_
          try simp only [thenQ, blockQ, noGotoQ]
          try simp only [maskL, setsL, putsO, putO, mB, List.set_cons_zero, List.set_cons_succ, seval]
          rw [hpt]
          try simp only [bLp, bRp]
          exact Weak.mk (by simp only [go_sem, Le.refl, Le.any, LeL, and_self]) (fun _ _ h => h) rfl rfl
       ·
        simp only [List.set_cons_zero, List.set_cons_succ]
        have hpt : ptT T s p = p.tx := by (unfold ptT; rw [if_neg fun h => (show ¬ p.k = 4 by (have h9 := hc41; simp at h9; exact h9)) h.1])
        iterate 7 (refine aops_chunk 1 fun Q0 q0 => ?_; simp only [↓bO, go_sem, seval, hk, hz1, gM hp, hw, accT_pre hp, hz2, hz3, hz6]; refine q0 _ ?_; clear q0 Q0; simp only [go_sem])
        simp only [↓bO, go_sem, seval, hk, hz1, gM hp, hw, accT_pre hp, hz2, hz3, hz6]
        refine y2 _ ?_
        try clear y2 Y2
        refine AWp_cond (b := false) (by first | exact rfl | exact congrArg (fun b => AV.v (.bool b)) hb49) (fun h => (by cases h)) (fun _ => ?_)
        refine AWp_skip ?_
        try simp only [thenQ, blockQ, noGotoQ]
        try simp only [maskL, setsL, putsO, putO, mB, List.set_cons_zero, List.set_cons_succ, seval]
        rw [hpt]
        try simp only [bLp, bRp]
        exact Weak.mk (by simp only [go_sem, Le.refl, Le.any, LeL, and_self]) (fun _ _ h => h) rfl rfl
      simp only [maskL, setsL, putsO, putO, mB, List.set_cons_zero, List.set_cons_succ, seval]
      refine AWp_joinM (mB 68 122) ([(4, .v (.string (preT T s)))]) ([]) ?_ ?_
      ·
       refine AWp_seqK fun Y2 y2 => ?_
       refine AWp_region ?_
       refine aops_chunk 1 fun Q0 q0 => ?_
       simp only [↓bO, go_sem, seval, hk, hz1, gM hp, hw, accT_pre hp, hz2, hz3, hz6]
       refine q0 _ ?_
       clear q0 Q0
       simp only [go_sem]
       simp only [↓bO, go_sem, seval, hk, hz1, gM hp, hw, accT_pre hp, hz2, hz3, hz6]
       refine y2 _ ?_
       try clear y2 Y2
       refine AWp_cond rfl (fun hb54 => ?_) (fun hb54 => ?_)
       ·
        refine AWp_region ?_
        iterate 3 (refine aops_chunk 1 fun Q0 q0 => ?_; simp only [↓bO, go_sem, seval, hk, hz1, gM hp, hw, accT_pre hp, hz2, hz3, hz6]; refine q0 _ ?_; clear q0 Q0; simp only [go_sem])
        simp only [↓bO, go_sem, seval, hk, hz1, gM hp, hw, accT_pre hp, hz2, hz3, hz6]
        try simp only [maskL, setsL, putsO, putO, mB, List.set_cons_zero, List.set_cons_succ, seval]
        unfold preT
        first | rw [if_pos (show 0 < s by (have h9 := hb54; simp at h9; omega))] | rw [if_neg (show ¬ 0 < s by (have h9 := hb54; simp at h9; omega))]
        exact Weak.mk (by simp only [go_sem, Le.refl, Le.any, LeL, and_self]) (fun _ _ h => h) rfl rfl
       ·
        refine AWp_skip ?_
        try simp only [thenQ, blockQ, noGotoQ]
        try simp only [maskL, setsL, putsO, putO, mB, List.set_cons_zero, List.set_cons_succ, seval]
        unfold preT
        first | rw [if_pos (show 0 < s by (have h9 := hb54; simp at h9; omega))] | rw [if_neg (show ¬ 0 < s by (have h9 := hb54; simp at h9; omega))]
        exact Weak.mk (by simp only [go_sem, Le.refl, Le.any, LeL, and_self]) (fun _ _ h => h) rfl rfl
      simp only [maskL, setsL, putsO, putO, mB, List.set_cons_zero, List.set_cons_succ, seval]
      refine AWp_region ?_
      iterate 3 (refine aops_chunk 1 fun Q0 q0 => ?_; simp only [↓bO, go_sem, seval, hk, hz1, gM hp, hw, accT_pre hp, hz2, hz3, hz6]; refine q0 _ ?_; clear q0 Q0; simp only [go_sem])
      simp only [↓bO, go_sem, seval, hk, hz1, gM hp, hw, accT_pre hp, hz2, hz3, hz6]
      refine y1 _ ?_
      try clear y1 Y1
      refine AWp_region ?_
      iterate 2 (refine aops_chunk 1 fun Q0 q0 => ?_; simp only [↓bO, go_sem, seval, hk, hz1, gM hp, hw, accT_pre hp, hz2, hz3, hz6]; refine q0 _ ?_; clear q0 Q0; simp only [go_sem])
      simp only [↓bO, go_sem, seval, hk, hz1, gM hp, hw, accT_pre hp, hz2, hz3, hz6]
      refine ⟨(s + 1), (by omega), by omega, ?_⟩
      simp only [maskL, setsL, putsO, putO, mB, List.set_cons_zero, List.set_cons_succ, seval, hk, hz1, gM hp, hw, accT_pre hp, hz2, hz3, hz6]
      first | (refine Weak.drops 1 1 rfl rfl (by simp only; omega) (by simp only; omega) ?_ ?_ ?_) | (refine Weak.drops 0 1 rfl rfl (by simp only; omega) (by simp only; omega) ?_ ?_ ?_)
      · simp only [go_sem, Le.refl, Le.any, Int.natCast_add, Int.cast_ofNat_Int, Int.natCast_one]
      · simp only [UndL, UndOs, Ob.Und, and_true, true_and, and_self, Und.v, Und.any, Und.ptr, Und.map, Nat.reduceLT, Nat.zero_lt_succ, Und.tys, Und.tyAgg, Und.oslTys, Und.oslTys1, Und.clo0, Und.ty]
      · simp only [UndL, UndOs, Ob.Und, and_true, true_and, and_self, Und.v, Und.any, Und.ptr, Und.map, Nat.reduceLT, Nat.zero_lt_succ, Und.tys, Und.tyAgg, Und.oslTys, Und.oslTys1, Und.clo0, Und.ty]
     ·
      have hk : s = T.ps.length := by (have h9 := hb25; simp at h9; omega)
      refine AWp_exit ?_
      simp only [thenQ, blockQ, noGotoQ, bA, Nat.reduceEqDiff, ↓reduceIte]
      refine y0 _ ?_
      try clear y0 Y0
      refine AWp_seqK fun Y0 y0 => ?_
      refine AWp_seqK fun Y1 y1 => ?_
      refine AWp_region ?_
      iterate 2 (refine aops_chunk 1 fun Q0 q0 => ?_; simp only [↓bO, go_sem, seval, hz4, hz5]; refine q0 _ ?_; clear q0 Q0; simp only [go_sem])
      simp only [↓bO, go_sem, seval, hz4, hz5]
      refine y1 _ ?_
      try clear y1 Y1
      refine AWp_cond rfl (fun hb63 => ?_) (fun hb63 => ?_)
      ·
       refine AWp_seqK fun Y1 y1 => ?_
       refine AWp_region ?_
       iterate 3 (refine aops_chunk 1 fun Q0 q0 => ?_; simp only [↓bO, go_sem, seval, hz4, hz5]; refine q0 _ ?_; clear q0 Q0; simp only [go_sem])
       simp only [↓bO, go_sem, seval, hz4, hz5]
       refine y1 _ ?_
       try clear y1 Y1
       refine AWp_ret ?_
       try simp only [thenQ, blockQ, noGotoQ, retQ, aRes, tupOf, bS, bA]
       refine Le.of_eq (congrArg (fun s => AV.v (.string s)) ?_)
       subst hk
       exact hte.1 (by simpa using hb63)
      ·
       refine AWp_skip ?_
       try simp only [thenQ, blockQ, noGotoQ]
       refine y0 _ ?_
       try clear y0 Y0
       refine AWp_seqK fun Y0 y0 => ?_
       refine AWp_region ?_
       refine aops_chunk 1 fun Q0 q0 => ?_
       simp only [↓bO, go_sem, seval, hz4, hz5]
       refine q0 _ ?_
       clear q0 Q0
       simp only [go_sem]
       simp only [↓bO, go_sem, seval, hz4, hz5]
       refine y0 _ ?_
       try clear y0 Y0
       refine AWp_ret ?_
       try simp only [thenQ, blockQ, noGotoQ, retQ, aRes, tupOf, bS, bA]
       refine Le.of_eq (congrArg (fun s => AV.v (.string s)) ?_)
       subst hk
       exact hte.2 (by simpa using hb63)
end Go.Proofs.YtkokfdmggdhfmaaDoor
namespace Go.Proofs.YtkokfdmggdhfmaaDoor
open Go Go.Shelf
def Tryd.lays103_ren : Go.Shelf.Ren := ⟨fun | 103 => 54 | 210 => 71 | 206 => 70 | n => n, fun | 9 => 9 | 4 => 4 | 24 => 87 | 3 => 3 | n => n, fun | n => n⟩
theorem Tryd.lays103 : Go.Proofs.Lays.n103 Tryd.prog Tryd.lays103_ren := {
  mixed := by kernel_rfl
  f103 := Tryd.func54.trans (congrArg some (by kernel_rfl))
  f206 := Tryd.func70.trans (congrArg some (by kernel_rfl))
  f210 := Tryd.func71.trans (congrArg some (by kernel_rfl))
  t3 := Tryd.underlying3
  a3 := Tryd.isAgg3
  z3 := Tryd.sizeOf3
  v3 := Tryd.zeroValue3
  t4 := Tryd.underlying4
  a4 := Tryd.isAgg4
  z4 := Tryd.sizeOf4
  v4 := Tryd.zeroValue4
  t9 := Tryd.underlying9
  a9 := Tryd.isAgg9
  z9 := Tryd.sizeOf9
  v9 := Tryd.zeroValue9
  t24 := Tryd.underlying87
  a24 := Tryd.isAgg87
  z24 := Tryd.sizeOf87
  v24 := Tryd.zeroValue87 }
open Go.RowKit in
theorem Tryd.strings_CutPrefix (s p : ByteArray) (w : World) :
    Calls Tryd.prog 54 #[.string s, .string p] w fun e w' => e = .returned (.tuple #[.string ⟨(Lib.trimPrefix s.data.toList p.data.toList).toArray⟩, .bool (Lib.hasPrefix s.data.toList p.data.toList)]) ∧ w' = w := Any.strings_CutPrefix Tryd.lays103 s p w
end Go.Proofs.YtkokfdmggdhfmaaDoor
namespace Go.Proofs.YtkokfdmggdhfmaaDoor
open Go Go.RowKit
set_option maxRecDepth 100000
set_option maxHeartbeats 4000000
set_option linter.unusedSimpArgs false
set_option linter.unnecessarySimpa false
set_option linter.unusedVariables false
attribute [local irreducible] aops dRun
def cutP (s p : ByteArray) : ByteArray := ⟨(Lib.trimPrefix s.data.toList p.data.toList).toArray⟩
def hasP (s p : ByteArray) : Bool := Lib.hasPrefix s.data.toList p.data.toList
theorem CutPrefix_pure (s p : ByteArray) : APure Tryd.prog 54 [.v (.string s), .v (.string p)] (.tup [.v (.string (cutP s p)), .v (.bool (hasP s p))]) := by
  refine APure.ofCalls ⟨_, Tryd.func54, by kernel_rfl, by kernel_rfl⟩ (.cons (.v _) (.cons (.v _) .nil)) (.tup (.cons (.v _) (.cons (.v _) .nil))) fun E A w vs hgl hA hr => ?_
  obtain ⟨u, v, rfl, h1, h2⟩ := hr.two
  cases h1; cases h2
  refine (Tryd.strings_CutPrefix s p w).mono ?_
  rintro e w' ⟨rfl, rfl⟩
  refine ⟨_, rfl, Below.refl _ _, .tup rfl fun i c u hc hu => ?_⟩
  match i, hc, hu with
  | 0, hc, hu => cases hc; cases hu; exact .v _
  | 1, hc, hu => cases hc; cases hu; exact .v _
theorem Name_no_pure (n : Int) (h : ¬ (0 ≤ n ∧ n < 1073741824)) : APure Tryd.prog 36 [.v (.int .i64 n)] (.v (.string ByteArray.empty)) := by
  refine APure.mkL (.cons (.v _) .nil) (.v _) ?_
  refine ACalls_intro Tryd.func36 (by kernel_rfl) rfl (by rw [Tryd.ntmps36]; simp) (fun hm => ?_)
  simp only [Tryd.ntmps36, Tryd.results36, List.length_cons, List.length_nil, Nat.reduceAdd, Nat.reduceSub, List.replicate_succ, List.replicate_zero, List.cons_append, List.nil_append]
  refine AWp_seqK fun Y0 y0 => ?_
  refine AWp_region ?_
  simp only [↓bO, go_sem, seval]
  refine y0 _ ?_
  try clear y0 Y0
  refine AWp_seqK fun Y0 y0 => ?_
  refine AWp_seqK fun Y1 y1 => ?_
  refine AWp_region ?_
  refine aops_chunk 1 fun Q0 q0 => ?_
  simp only [↓bO, go_sem, seval]
  refine q0 _ ?_
  clear q0 Q0
  simp only [go_sem]
  refine aops_chunk 1 fun Q0 q0 => ?_
  simp only [↓bO, go_sem, seval]
  refine APure.call (known_pure n) ?_
  try simp only [bS, bA, thenQ, blockQ, noGotoQ]
  refine q0 _ ?_
  clear q0 Q0
  simp only [go_sem]
  simp only [↓bO, go_sem, seval]
  refine y1 _ ?_
  try clear y1 Y1
  refine AWp_cond rfl (fun hb6 => ?_) (fun hb6 => ?_)
  ·
   refine AWp_seqK fun Y1 y1 => ?_
   refine AWp_region ?_
   simp only [↓bO, go_sem, seval]
   refine y1 _ ?_
   try clear y1 Y1
   refine AWp_ret ?_
   try simp only [thenQ, blockQ, noGotoQ, retQ, aRes, tupOf, bS, bA]
   exact Le.of_eq rfl
  ·
   exact absurd hb6 (by simp; omega)
def pC (s : ByteArray) (b : Bool) : List AV := [.v (.string s), .v (.bool b)]
def PCalls4 (f : Nat) (args : List AV) (s : ByteArray) (b : Bool) (R : AV) (s' : ByteArray) (b' : Bool) : Prop :=
  ACalls Tryd.prog f args [(0, .cells 52 (pC s b))] 1 fun r os n => (r = R ∧ os = [(0, .cells 52 (pC s' b'))]) ∧ n = 1
theorem PCalls4.at {f : Nat} {args args' : List AV} {s s' : ByteArray} {b b' : Bool} {R : AV} (h : PCalls4 f args s b R s' b') {k : Nat} {os' : Os} {nx' : Nat} (hargs : RenL (renOf [k] nx') args args') (hR : Data R)
    (hk : getO os' k = some (.cells 52 (pC s b))) (lk : k < nx') {Q' : AV → Os → Nat → Prop} (hq : Q' R (putO os' k (.cells 52 (pC s' b'))) nx') : ACalls Tryd.prog f args' os' nx' Q' := by
  have ren : ∀ s b, RenOs (renOf [k] nx') 0 [.cells 52 (pC s b)] [.cells 52 (pC s b)] := fun s b => ⟨.cells ⟨.v _, .v _, trivial⟩, trivial⟩
  refine ACalls.at (args := args) (obs := [.cells 52 (pC s b)]) (obs1 := [.cells 52 (pC s' b')]) (obs' := [.cells 52 (pC s b)]) (obs1' := [.cells 52 (pC s' b')]) [k] ?_ rfl rfl (by simp) (by simpa using lk) hargs (.data hR) (ren s b) ⟨hk, trivial⟩ (ren s' b') hq
  exact h.mono fun r os n ⟨⟨h1, h2⟩, h3⟩ => ⟨h1, h2, h3⟩
theorem pUnd {n : Nat} (h : 1 ≤ n) (s : ByteArray) (b : Bool) : UndOs n [(0, .cells 52 (pC s b))] := ⟨by omega, ⟨.v _ _, .v _ _, trivial⟩, trivial⟩
theorem skip_c (s t : ByteArray) (b : Bool) : PCalls4 27 [.ptr 0 0, .v (.string t)] (s) (b) (.v (.bool (hasP s t))) (if hasP s t = true then cutP s t else s) (b) := by
  refine ACalls.clean (C := fun r os' => r = _ ∧ os' = _) ?_
  refine ACalls_intro Tryd.func27 (by kernel_rfl) rfl (by rw [Tryd.ntmps27]; simp) (fun hm => ?_)
  simp only [Tryd.ntmps27, Tryd.results27, List.length_cons, List.length_nil, Nat.reduceAdd, Nat.reduceSub, List.replicate_succ, List.replicate_zero, List.cons_append, List.nil_append]
  refine AWp_seqK fun Y0 y0 => ?_
  refine AWp_region ?_
  simp only [↓bO, go_sem, seval, pC]
  refine y0 _ ?_
  try clear y0 Y0
  refine AWp_seqK fun Y0 y0 => ?_
  refine AWp_region ?_
  iterate 5 (refine aops_chunk 1 fun Q0 q0 => ?_; simp only [↓bO, go_sem, seval, pC]; refine q0 _ ?_; clear q0 Q0; simp only [go_sem])
  refine aops_chunk 1 fun Q0 q0 => ?_
  simp only [↓bO, go_sem, seval, pC]
  refine APure.call (CutPrefix_pure s t) ?_
  try simp only [bS, bA, thenQ, blockQ, noGotoQ]
  iterate 4 (refine q0 _ ?_; clear q0 Q0; simp only [go_sem]; refine aops_chunk 1 fun Q0 q0 => ?_; simp only [↓bO, go_sem, seval, pC])
  refine q0 _ ?_
  clear q0 Q0
  simp only [go_sem]
  simp only [↓bO, go_sem, seval, pC]
  refine y0 _ ?_
  try clear y0 Y0
  refine AWp_seqK fun Y0 y0 => ?_
  refine AWp_seqK fun Y1 y1 => ?_
  refine AWp_region ?_
  simp only [↓bO, go_sem, seval, pC]
  refine y1 _ ?_
  try clear y1 Y1
  refine AWp_cond rfl (fun hb16 => ?_) (fun hb16 => ?_)
  ·
   have h6 : hasP s t = true := hb16
   refine AWp_region ?_
   iterate 4 (refine aops_chunk 1 fun Q0 q0 => ?_; simp only [↓bO, go_sem, seval, pC]; refine q0 _ ?_; clear q0 Q0; simp only [go_sem])
   simp only [↓bO, go_sem, seval, pC]
   refine y0 _ ?_
   try clear y0 Y0
   refine AWp_seqK fun Y0 y0 => ?_
   refine AWp_region ?_
   refine aops_chunk 1 fun Q0 q0 => ?_
   simp only [↓bO, go_sem, seval, pC]
   refine q0 _ ?_
   clear q0 Q0
   simp only [go_sem]
   simp only [↓bO, go_sem, seval, pC]
   refine y0 _ ?_
   try clear y0 Y0
   refine AWp_ret ?_
   try simp only [thenQ, blockQ, noGotoQ, retQ, aRes, tupOf, bS, bA]
   rw [h6, if_pos rfl]
   refine ⟨_, _, ⟨rfl, rfl⟩, .v _ _, pUnd (by omega) _ _, ?_, ?_, by omega⟩
   · exact Le.refl _
   · first | exact ⟨0, rfl, rfl⟩ | exact ⟨1, rfl, rfl⟩ | exact ⟨2, rfl, rfl⟩ | exact ⟨3, rfl, rfl⟩
  ·
   have h6 : hasP s t = false := hb16
   refine AWp_skip ?_
   try simp only [thenQ, blockQ, noGotoQ]
   refine y0 _ ?_
   try clear y0 Y0
   refine AWp_seqK fun Y0 y0 => ?_
   refine AWp_region ?_
   refine aops_chunk 1 fun Q0 q0 => ?_
   simp only [↓bO, go_sem, seval, pC]
   refine q0 _ ?_
   clear q0 Q0
   simp only [go_sem]
   simp only [↓bO, go_sem, seval, pC]
   refine y0 _ ?_
   try clear y0 Y0
   refine AWp_ret ?_
   try simp only [thenQ, blockQ, noGotoQ, retQ, aRes, tupOf, bS, bA]
   rw [h6, if_neg (by simp)]
   refine ⟨_, _, ⟨rfl, rfl⟩, .v _ _, pUnd (by omega) _ _, ?_, ?_, by omega⟩
   · exact Le.refl _
   · first | exact ⟨0, rfl, rfl⟩ | exact ⟨1, rfl, rfl⟩ | exact ⟨2, rfl, rfl⟩ | exact ⟨3, rfl, rfl⟩
def skF (s : ByteArray) : Nat → Nat → Nat
  | 0, i => i
  | f + 1, i => if i < s.size then (if blI (bt s i) then skF s f (i + 1) else if bt s i = 35 then skF s f (i + runN s i (fun c => c != 10)) else i) else i
theorem skF_end {s : ByteArray} {f i : Nat} (h : ¬ i < s.size) : skF s f i = i := by cases f <;> simp [skF, h]
theorem skF_at {s : ByteArray} {f i : Nat} (hb : blI (bt s i) = false) (hc : ¬ bt s i = 35) : skF s f i = i := by cases f <;> simp [skF, hb, hc]
theorem skF_blank {s : ByteArray} {f i : Nat} (hi : i < s.size) (hb : blI (bt s i) = true) : skF s (f + 1) i = skF s f (i + 1) := by rw [skF, if_pos hi, if_pos hb]
theorem skF_rem {s : ByteArray} {f i : Nat} (hi : i < s.size) (hb : blI (bt s i) = false) (hc : bt s i = 35) : skF s (f + 1) i = skF s f (i + runN s i (fun c => c != 10)) := by rw [skF, if_pos hi, if_neg (by simp [hb]), if_pos hc]
theorem rem_pos {s : ByteArray} {i : Nat} (hi : i < s.size) (hc : bt s i = 35) : 0 < runN s i (fun c => c != 10) ∧ i + runN s i (fun c => c != 10) ≤ s.size := ⟨runN_pos (p := fun c => c != 10) hi (by rw [hc]; decide), runN_le s i (fun c => c != 10) (by omega)⟩
theorem skF_more {s : ByteArray} : ∀ (f g i : Nat), s.size - i < f → s.size - i < g → skF s f i = skF s g i
  | 0, _, _, h, _ => by omega
  | _, 0, _, _, h => by omega
  | f + 1, g + 1, i, hf, hg => by
    by_cases hi : i < s.size
    · by_cases hb : blI (bt s i) = true
      · rw [skF_blank hi hb, skF_blank hi hb]; exact skF_more f g (i + 1) (by omega) (by omega)
      · have hb : blI (bt s i) = false := by simpa using hb
        by_cases hc : bt s i = 35
        · have := rem_pos hi hc
          rw [skF_rem hi hb hc, skF_rem hi hb hc]; exact skF_more f g _ (by omega) (by omega)
        · rw [skF_at hb hc, skF_at hb hc]
    · rw [skF_end hi, skF_end hi]
def skA (s : ByteArray) (i : Nat) : Nat := skF s (s.size - i + 1) i
theorem skA_end {s : ByteArray} {i : Nat} (h : ¬ i < s.size) : skA s i = i := skF_end h
theorem skA_at {s : ByteArray} {i : Nat} (hb : blI (bt s i) = false) (hc : ¬ bt s i = 35) : skA s i = i := skF_at hb hc
theorem skA_blank {s : ByteArray} {i : Nat} (hi : i < s.size) (hb : blI (bt s i) = true) : skA s (i + 1) = skA s i := by
  unfold skA; rw [skF_blank hi hb]; exact skF_more _ _ _ (by omega) (by omega)
theorem skA_rem {s : ByteArray} {i : Nat} (hi : i < s.size) (hb : blI (bt s i) = false) (hc : bt s i = 35) : skA s (i + runN s i (fun c => c != 10)) = skA s i := by
  have := rem_pos hi hc
  unfold skA; rw [skF_rem hi hb hc]; exact skF_more _ _ _ (by omega) (by omega)
theorem skA_ind {s : ByteArray} {C : Nat → Prop} (hb : ∀ i, i < s.size → blI (bt s i) = true → C (i + 1) → C i) (hr : ∀ i, i < s.size → blI (bt s i) = false → bt s i = 35 → C (i + runN s i (fun c => c != 10)) → C i)
    (he : ∀ i, ¬ i < s.size → C i) (ha : ∀ i, i < s.size → blI (bt s i) = false → ¬ bt s i = 35 → C i) : ∀ i, C i := by
  have key : ∀ m i, s.size - i ≤ m → C i := by
    intro m
    induction m with
    | zero => intro i h; exact he i (by omega)
    | succ m ih =>
      intro i h
      by_cases hi : i < s.size
      · by_cases h1 : blI (bt s i) = true
        · exact hb i hi h1 (ih _ (by omega))
        · have h1 : blI (bt s i) = false := by simpa using h1
          by_cases h2 : bt s i = 35
          · have := rem_pos hi h2
            exact hr i hi h1 h2 (ih _ (by omega))
          · exact ha i hi h1 h2
      · exact he i hi
  intro i
  exact key _ i (Nat.le_refl _)
def Wk (s : ByteArray) (RES : List Tok × Int × Int) (i : Nat) (out : List Tok) : Prop := ∃ f, WS.ok s RES ⟨f, i, out⟩
theorem Wk.skip {s : ByteArray} {RES : List Tok × Int × Int} : ∀ i out, Wk s RES i out → Wk s RES (skA s i) out := skA_ind (s := s) (C := fun i => ∀ out, Wk s RES i out → Wk s RES (skA s i) out)
  (fun i hi h1 h out hw => by obtain ⟨f, hw⟩ := hw; rw [← skA_blank hi h1]; exact h out ⟨_, hw.blank hi h1⟩) (fun i hi h1 h2 h out hw => by obtain ⟨f, hw⟩ := hw; rw [← skA_rem hi h1 h2]; exact h out ⟨_, hw.rem hi h1 h2 rfl⟩)
  (fun i hi out hw => by rw [skA_end hi]; exact hw) (fun i hi h1 h2 out hw => by rw [skA_at h1 h2]; exact hw)
theorem Wk.bnd {s : ByteArray} {RES : List Tok × Int × Int} {i : Nat} {out : List Tok} (h : Wk s RES i out) : i ≤ s.size ∧ out.length ≤ i := by
  obtain ⟨f, h⟩ := h; exact h.2.2
def dv (s : ByteArray) : Nat → Int
  | 0 => 0
  | k + 1 => 10 * dv s k + (bt s (2 + k) - 48)
def dgOk (s : ByteArray) (k : Nat) : Bool := dgI (bt s (2 + k)) && !(k == 0 && bt s 2 == 48)
theorem dgOk_dg {s : ByteArray} {k : Nat} (h : dgOk s k = true) : 48 ≤ bt s (2 + k) ∧ bt s (2 + k) ≤ 57 := by
  unfold dgOk dgI at h
  simp only [Bool.and_eq_true, decide_eq_true_eq] at h
  exact h.1
theorem dg_good {s : ByteArray} {k : Nat} (h1 : ¬ bt s (2 + k) < 48) (h2 : ¬ bt s (2 + k) > 57) (h3 : k = 0 → ¬ bt s (2 + k) = 48) : dgOk s k = true := by
  unfold dgOk dgI
  have e1 : decide (48 ≤ bt s (2 + k) ∧ bt s (2 + k) ≤ 57) = true := decide_eq_true ⟨by omega, by omega⟩
  rw [e1]
  cases k with
  | zero => have := h3 rfl; simpa using this
  | succ k => simp
theorem dg_bad {s : ByteArray} {k : Nat} (h : bt s (2 + k) < 48 ∨ bt s (2 + k) > 57 ∨ (k = 0 ∧ bt s (2 + k) = 48)) : dgOk s k = false := by
  unfold dgOk dgI
  rcases h with h | h | ⟨rfl, h⟩
  · rw [show decide (48 ≤ bt s (2 + k) ∧ bt s (2 + k) ≤ 57) = false from decide_eq_false fun h9 => by omega]; rfl
  · rw [show decide (48 ≤ bt s (2 + k) ∧ bt s (2 + k) ≤ 57) = false from decide_eq_false fun h9 => by omega]; rfl
  · have h9 : bt s 2 = 48 := h
    simp [h9]
theorem dv_bnd (s : ByteArray) : ∀ k, (∀ j, j < k → dgOk s j = true) → 0 ≤ dv s k ∧ dv s k < 10 ^ k
  | 0, _ => by simp [dv]
  | k + 1, h => by
    have h1 := dv_bnd s k fun j hj => h j (by omega)
    have h2 := dgOk_dg (h k (by omega))
    rw [dv, Int.pow_succ]
    omega
theorem dv_bnd10 {s : ByteArray} {k : Nat} (hk : k ≤ 10) (h : ∀ j, j < k → dgOk s j = true) : 0 ≤ dv s k ∧ dv s k < 10000000000 := by
  have h1 := dv_bnd s k h
  have h2 : (10 : Int) ^ k ≤ 10 ^ 10 := by exact_mod_cast Nat.pow_le_pow_right (by decide) hk
  have h3 : (10 : Int) ^ 10 = 10000000000 := by decide
  omega
abbrev nuP (s : ByteArray) : Prop := 2 ≤ s.size ∧ s.size ≤ 12 ∧ bt s 0 = 39 ∧ 97 ≤ bt s 1 ∧ bt s 1 ≤ 122
def nuR (s : ByteArray) : Int :=
  if nuP s ∧ ((List.range (s.size - 2)).all fun j => dgOk s j) = true then
    (if 26 * dv s (s.size - 2) + bt s 1 - 97 < 1073741824 then 26 * dv s (s.size - 2) + bt s 1 - 97 else -1)
  else -1
theorem nu_no {s : ByteArray} (h : ¬ nuP s) : nuR s = -1 := by unfold nuR; rw [if_neg fun h9 => h h9.1]
theorem nu_bad {s : ByteArray} {k : Nat} (hk : k < s.size - 2) (h : dgOk s k = false) : nuR s = -1 := by
  unfold nuR
  rw [if_neg fun h9 => by
    have h1 := List.all_eq_true.1 h9.2 k (List.mem_range.2 hk)
    rw [h] at h1; cases h1]
theorem nu_yes {s : ByteArray} (hp : nuP s) (h : ∀ j, j < s.size - 2 → dgOk s j = true) : nuR s = if 26 * dv s (s.size - 2) + bt s 1 - 97 < 1073741824 then 26 * dv s (s.size - 2) + bt s 1 - 97 else -1 := by
  unfold nuR
  rw [if_pos ⟨hp, List.all_eq_true.2 fun j hj => h j (List.mem_range.1 hj)⟩]
theorem RNumber_pure (s : ByteArray) (hs : s.size ≤ 1048576) : APure Tryd.prog 30 [.v (.string s)] (.v (.int .i64 (nuR s))) := by
  refine APure.mkL (.cons (.v _) .nil) (.v _) ?_
  refine ACalls_intro Tryd.func30 (by kernel_rfl) rfl (by rw [Tryd.ntmps30]; simp) (fun hm => ?_)
  simp only [Tryd.ntmps30, Tryd.results30, List.length_cons, List.length_nil, Nat.reduceAdd, Nat.reduceSub, List.replicate_succ, List.replicate_zero, List.cons_append, List.nil_append]
  have hb0 := bt_range s 0
  have hb1 := bt_range s 1
  have hc0 : ((((s[0]?).getD 0).toNat : Nat) : Int) = bt s 0 := rfl
  have hv1 : IntKind.i64.wrap (bt s 1) = bt s 1 := by (rw [wrap_in (by omega) (by omega)])
  have hc1 : ((((s[1]?).getD 0).toNat : Nat) : Int) = bt s 1 := rfl
  refine AWp_seqK fun Y0 y0 => ?_
  refine AWp_region ?_
  simp only [↓bO, go_sem, seval, hc0, hc1, hv1]
  refine y0 _ ?_
  try clear y0 Y0
  refine AWp_seqK fun Y0 y0 => ?_
  refine AWp_seqK fun Y1 y1 => ?_
  refine AWp_region ?_
  iterate 4 (refine aops_chunk 1 fun Q0 q0 => ?_; simp only [↓bO, go_sem, seval, hc0, hc1, hv1]; refine q0 _ ?_; clear q0 Q0; simp only [go_sem])
  refine aops_case 8 rfl (fun hc8 => ?_) (fun hc8 => ?_)
  ·
   simp only [List.set_cons_zero, List.set_cons_succ]
   have hnp : ¬ nuP s := by (unfold nuP; rintro ⟨g1, g2, g3, g4, g5⟩; have h9 := hc8; simp at h9; omega)
   iterate 18 (refine aops_chunk 1 fun Q0 q0 => ?_; simp only [↓bO, go_sem, seval, hc0, hc1, hv1]; refine q0 _ ?_; clear q0 Q0; simp only [go_sem])
   simp only [↓bO, go_sem, seval, hc0, hc1, hv1]
   refine y1 _ ?_
   try clear y1 Y1
   refine AWp_cond (b := true) (by first | exact rfl | exact congrArg (fun b => AV.v (.bool b)) hb27) (fun _ => ?_) (fun h => (by cases h))
   refine AWp_seqK fun Y1 y1 => ?_
   refine AWp_region ?_
   simp only [↓bO, go_sem, seval, hc0, hc1, hv1]
   refine y1 _ ?_
   try clear y1 Y1
   refine AWp_ret ?_
   try simp only [thenQ, blockQ, noGotoQ, retQ, aRes, tupOf, bS, bA]
   refine Le.of_eq (congrArg (fun n => AV.v (.int .i64 n)) ?_)
   exact (nu_no hnp).symm
  ·
   simp only [List.set_cons_zero, List.set_cons_succ]
   have h2 : 2 ≤ s.size := by (have h9 := hc8; simp at h9; omega)
   have hl0 : ((0 : Int) < (s.size : Int)) = True := eq_true (by omega)
   have hl1 : ((1 : Int) < (s.size : Int)) = True := eq_true (by omega)
   iterate 5 (refine aops_chunk 1 fun Q0 q0 => ?_; simp only [↓bO, go_sem, seval, hc0, hc1, hv1, hl0, hl1]; refine q0 _ ?_; clear q0 Q0; simp only [go_sem])
   refine aops_case 13 rfl (fun hc13 => ?_) (fun hc13 => ?_)
   ·
    simp only [List.set_cons_zero, List.set_cons_succ]
    have hnp : ¬ nuP s := by (unfold nuP; rintro ⟨g1, g2, g3, g4, g5⟩; have h9 := hc13; simp at h9; omega)
    iterate 13 (refine aops_chunk 1 fun Q0 q0 => ?_; simp only [↓bO, go_sem, seval, hc0, hc1, hv1, hl0, hl1]; refine q0 _ ?_; clear q0 Q0; simp only [go_sem])
    simp only [↓bO, go_sem, seval, hc0, hc1, hv1, hl0, hl1]
    refine y1 _ ?_
    try clear y1 Y1
    refine AWp_cond (b := true) (by first | exact rfl | exact congrArg (fun b => AV.v (.bool b)) hb27) (fun _ => ?_) (fun h => (by cases h))
    refine AWp_seqK fun Y1 y1 => ?_
    refine AWp_region ?_
    simp only [↓bO, go_sem, seval, hc0, hc1, hv1, hl0, hl1]
    refine y1 _ ?_
    try clear y1 Y1
    refine AWp_ret ?_
    try simp only [thenQ, blockQ, noGotoQ, retQ, aRes, tupOf, bS, bA]
    refine Le.of_eq (congrArg (fun n => AV.v (.int .i64 n)) ?_)
    exact (nu_no hnp).symm
   ·
    simp only [List.set_cons_zero, List.set_cons_succ]
    have h12 : s.size ≤ 12 := by (have h9 := hc13; simp at h9; omega)
    iterate 5 (refine aops_chunk 1 fun Q0 q0 => ?_; simp only [↓bO, go_sem, seval, hc0, hc1, hv1, hl0, hl1]; refine q0 _ ?_; clear q0 Q0; simp only [go_sem])
    refine aops_case 18 rfl (fun hc18 => ?_) (fun hc18 => ?_)
    ·
     simp only [List.set_cons_zero, List.set_cons_succ]
     have hnp : ¬ nuP s := by (unfold nuP; rintro ⟨g1, g2, g3, g4, g5⟩; have h9 := hc18; simp at h9; omega)
     iterate 8 (refine aops_chunk 1 fun Q0 q0 => ?_; simp only [↓bO, go_sem, seval, hc0, hc1, hv1, hl0, hl1]; refine q0 _ ?_; clear q0 Q0; simp only [go_sem])
     simp only [↓bO, go_sem, seval, hc0, hc1, hv1, hl0, hl1]
     refine y1 _ ?_
     try clear y1 Y1
     refine AWp_cond (b := true) (by first | exact rfl | exact congrArg (fun b => AV.v (.bool b)) hb27) (fun _ => ?_) (fun h => (by cases h))
     refine AWp_seqK fun Y1 y1 => ?_
     refine AWp_region ?_
     simp only [↓bO, go_sem, seval, hc0, hc1, hv1, hl0, hl1]
     refine y1 _ ?_
     try clear y1 Y1
     refine AWp_ret ?_
     try simp only [thenQ, blockQ, noGotoQ, retQ, aRes, tupOf, bS, bA]
     refine Le.of_eq (congrArg (fun n => AV.v (.int .i64 n)) ?_)
     exact (nu_no hnp).symm
    ·
     simp only [List.set_cons_zero, List.set_cons_succ]
     have h39 : bt s 0 = 39 := by (have h9 := hc18; simp at h9; omega)
     iterate 5 (refine aops_chunk 1 fun Q0 q0 => ?_; simp only [↓bO, go_sem, seval, hc0, hc1, hv1, hl0, hl1]; refine q0 _ ?_; clear q0 Q0; simp only [go_sem])
     refine aops_case 23 rfl (fun hc23 => ?_) (fun hc23 => ?_)
     ·
      simp only [List.set_cons_zero, List.set_cons_succ]
      have hnp : ¬ nuP s := by (unfold nuP; rintro ⟨g1, g2, g3, g4, g5⟩; have h9 := hc23; simp at h9; omega)
      iterate 3 (refine aops_chunk 1 fun Q0 q0 => ?_; simp only [↓bO, go_sem, seval, hc0, hc1, hv1, hl0, hl1]; refine q0 _ ?_; clear q0 Q0; simp only [go_sem])
      simp only [↓bO, go_sem, seval, hc0, hc1, hv1, hl0, hl1]
      refine y1 _ ?_
      try clear y1 Y1
      refine AWp_cond (b := true) (by first | exact rfl | exact congrArg (fun b => AV.v (.bool b)) hb27) (fun _ => ?_) (fun h => (by cases h))
      refine AWp_seqK fun Y1 y1 => ?_
      refine AWp_region ?_
      simp only [↓bO, go_sem, seval, hc0, hc1, hv1, hl0, hl1]
      refine y1 _ ?_
      try clear y1 Y1
      refine AWp_ret ?_
      try simp only [thenQ, blockQ, noGotoQ, retQ, aRes, tupOf, bS, bA]
      refine Le.of_eq (congrArg (fun n => AV.v (.int .i64 n)) ?_)
      exact (nu_no hnp).symm
     ·
      simp only [List.set_cons_zero, List.set_cons_succ]
      have h97 : 97 ≤ bt s 1 := by (have h9 := hc23; simp at h9; omega)
      iterate 3 (refine aops_chunk 1 fun Q0 q0 => ?_; simp only [↓bO, go_sem, seval, hc0, hc1, hv1, hl0, hl1]; refine q0 _ ?_; clear q0 Q0; simp only [go_sem])
      simp only [↓bO, go_sem, seval, hc0, hc1, hv1, hl0, hl1]
      refine y1 _ ?_
      try clear y1 Y1
      refine AWp_cond rfl (fun hb27 => ?_) (fun hb27 => ?_)
      ·
       have hnp : ¬ nuP s := by (unfold nuP; rintro ⟨g1, g2, g3, g4, g5⟩; have h9 := hb27; simp at h9; omega)
       refine AWp_seqK fun Y1 y1 => ?_
       refine AWp_region ?_
       simp only [↓bO, go_sem, seval, hc0, hc1, hv1, hl0, hl1]
       refine y1 _ ?_
       try clear y1 Y1
       refine AWp_ret ?_
       try simp only [thenQ, blockQ, noGotoQ, retQ, aRes, tupOf, bS, bA]
       refine Le.of_eq (congrArg (fun n => AV.v (.int .i64 n)) ?_)
       exact (nu_no hnp).symm
      ·
       have hnp : nuP s := ⟨h2, h12, h39, h97, by (have h9 := hb27; simp at h9; omega)⟩
       refine AWp_skip ?_
       try simp only [thenQ, blockQ, noGotoQ]
       refine y0 _ ?_
       try clear y0 Y0
       refine AWp_seqK fun Y0 y0 => ?_
       refine AWp_region ?_
       simp only [↓bO, go_sem, seval, hc0, hc1, hv1, hl0, hl1]
       refine y0 _ ?_
       try clear y0 Y0
       refine AWp_seqK fun Y0 y0 => ?_
       refine AWp_seqK fun Y1 y1 => ?_
       refine AWp_region ?_
       simp only [↓bO, go_sem, seval, hc0, hc1, hv1, hl0, hl1]
       refine y1 _ ?_
       try clear y1 Y1
       refine AWp_block ?_
       refine AWp_loopM (σ := Nat) (mB 72 25) (fun k => 2 + k ≤ s.size ∧ ∀ j, j < k → dgOk s j = true) (fun k => [(3, .v (.int .i64 (dv s k))), (4, .v (.int .i64 ((2 + k : Nat) : Int)))]) (fun k => []) (fun k => s.size - (2 + k)) 0 (⟨hnp.1, fun j hj => by omega⟩) ?_ (fun k hk => ?_)
       ·
        try simp only [maskL, setsL, putsO, putO, mB, List.set_cons_zero, List.set_cons_succ, seval, dv]
        exact Weak.mk (by simp only [go_sem, Le.refl, Le.any, Le.slNil, Int.natCast_add, Int.cast_ofNat_Int, Int.natCast_one]) (fun _ _ h => h) rfl rfl
       simp only [maskL, setsL, putsO, putO, mB, List.set_cons_zero, List.set_cons_succ, seval]
       have hkb := dv_bnd10 (s := s) (k := k) (by have := hnp.2.1; omega) hk.2
       have hbk := bt_range s (2 + k)
       have hck : ((((s[2 + k]?).getD 0).toNat : Nat) : Int) = bt s (2 + k) := rfl
       have hw1 : IntKind.i64.wrap (((2 + k : Nat) : Int) + 1) = ((2 + (k + 1) : Nat) : Int) := by (rw [wrap_in (by omega) (by omega)]; omega)
       have hvk : IntKind.i64.wrap (bt s (2 + k)) = bt s (2 + k) := by (rw [wrap_in (by omega) (by omega)])
       have hw2 : IntKind.i64.wrap (10 * dv s k) = 10 * dv s k := by (rw [wrap_in (by omega) (by omega)])
       have hw3 : IntKind.i64.wrap (10 * dv s k + bt s (2 + k)) = 10 * dv s k + bt s (2 + k) := by (rw [wrap_in (by omega) (by omega)])
       have hw4 : IntKind.i64.wrap (10 * dv s k + bt s (2 + k) - 48) = 10 * dv s k + (bt s (2 + k) - 48) := by (rw [wrap_in (by omega) (by omega)]; omega)
       refine AWp_seqK fun Y1 y1 => ?_
       refine AWp_seqK fun Y2 y2 => ?_
       refine AWp_region ?_
       iterate 3 (refine aops_chunk 1 fun Q0 q0 => ?_; simp only [↓bO, go_sem, seval, hc0, hc1, hv1, hck, hvk, hw1, hw2, hw3, hw4, dv, hl0, hl1]; refine q0 _ ?_; clear q0 Q0; simp only [go_sem])
       simp only [↓bO, go_sem, seval, hc0, hc1, hv1, hck, hvk, hw1, hw2, hw3, hw4, dv, hl0, hl1]
       refine y2 _ ?_
       try clear y2 Y2
       refine AWp_cond rfl (fun hb31 => ?_) (fun hb31 => ?_)
       ·
        have hlt : 2 + k < s.size := by (have h9 := hb31; simp at h9; omega)
        refine AWp_skip ?_
        try simp only [thenQ, blockQ, noGotoQ]
        refine y1 _ ?_
        try clear y1 Y1
        refine AWp_seqK fun Y1 y1 => ?_
        refine AWp_block ?_
        refine AWp_seqK fun Y2 y2 => ?_
        refine AWp_seqK fun Y3 y3 => ?_
        refine AWp_region ?_
        iterate 5 (refine aops_chunk 1 fun Q0 q0 => ?_; simp only [↓bO, go_sem, seval, hc0, hc1, hv1, hck, hvk, hw1, hw2, hw3, hw4, dv, hl0, hl1, hlt]; refine q0 _ ?_; clear q0 Q0; simp only [go_sem])
        refine aops_case 38 rfl (fun hc38 => ?_) (fun hc38 => ?_)
        ·
         simp only [List.set_cons_zero, List.set_cons_succ]
         have hbad : dgOk s k = false := dg_bad (.inl (by have h9 := hc38; simp at h9; omega))
         iterate 14 (refine aops_chunk 1 fun Q0 q0 => ?_; simp only [↓bO, go_sem, seval, hc0, hc1, hv1, hck, hvk, hw1, hw2, hw3, hw4, dv, hl0, hl1, hlt]; refine q0 _ ?_; clear q0 Q0; simp only [go_sem])
         simp only [↓bO, go_sem, seval, hc0, hc1, hv1, hck, hvk, hw1, hw2, hw3, hw4, dv, hl0, hl1, hlt]
         refine y3 _ ?_
         try clear y3 Y3
         refine AWp_cond (b := true) (by first | exact rfl | exact congrArg (fun b => AV.v (.bool b)) hb53) (fun _ => ?_) (fun h => (by cases h))
         refine AWp_seqK fun Y3 y3 => ?_
         refine AWp_region ?_
         simp only [↓bO, go_sem, seval, hc0, hc1, hv1, hck, hvk, hw1, hw2, hw3, hw4, dv, hl0, hl1, hlt]
         refine y3 _ ?_
         try clear y3 Y3
         refine AWp_ret ?_
         try simp only [thenQ, blockQ, noGotoQ, retQ, aRes, tupOf, bS, bA]
         refine Le.of_eq (congrArg (fun n => AV.v (.int .i64 n)) ?_)
         exact (nu_bad (by omega) hbad).symm
        ·
         simp only [List.set_cons_zero, List.set_cons_succ]
         have h48 : ¬ bt s (2 + k) < 48 := by (have h9 := hc38; simp at h9; omega)
         iterate 6 (refine aops_chunk 1 fun Q0 q0 => ?_; simp only [↓bO, go_sem, seval, hc0, hc1, hv1, hck, hvk, hw1, hw2, hw3, hw4, dv, hl0, hl1, hlt]; refine q0 _ ?_; clear q0 Q0; simp only [go_sem])
         refine aops_case 44 rfl (fun hc44 => ?_) (fun hc44 => ?_)
         ·
          simp only [List.set_cons_zero, List.set_cons_succ]
          have hbad : dgOk s k = false := dg_bad (.inr (.inl (by have h9 := hc44; simp at h9; omega)))
          iterate 8 (refine aops_chunk 1 fun Q0 q0 => ?_; simp only [↓bO, go_sem, seval, hc0, hc1, hv1, hck, hvk, hw1, hw2, hw3, hw4, dv, hl0, hl1, hlt]; refine q0 _ ?_; clear q0 Q0; simp only [go_sem])
          simp only [↓bO, go_sem, seval, hc0, hc1, hv1, hck, hvk, hw1, hw2, hw3, hw4, dv, hl0, hl1, hlt]
          refine y3 _ ?_
          try clear y3 Y3
          refine AWp_cond (b := true) (by first | exact rfl | exact congrArg (fun b => AV.v (.bool b)) hb53) (fun _ => ?_) (fun h => (by cases h))
          refine AWp_seqK fun Y3 y3 => ?_
          refine AWp_region ?_
          simp only [↓bO, go_sem, seval, hc0, hc1, hv1, hck, hvk, hw1, hw2, hw3, hw4, dv, hl0, hl1, hlt]
          refine y3 _ ?_
          try clear y3 Y3
          refine AWp_ret ?_
          try simp only [thenQ, blockQ, noGotoQ, retQ, aRes, tupOf, bS, bA]
          refine Le.of_eq (congrArg (fun n => AV.v (.int .i64 n)) ?_)
          exact (nu_bad (by omega) hbad).symm
         ·
          simp only [List.set_cons_zero, List.set_cons_succ]
          have h57 : ¬ bt s (2 + k) > 57 := by (have h9 := hc44; simp at h9; omega)
          iterate 3 (refine aops_chunk 1 fun Q0 q0 => ?_; simp only [↓bO, go_sem, seval, hc0, hc1, hv1, hck, hvk, hw1, hw2, hw3, hw4, dv, hl0, hl1, hlt]; refine q0 _ ?_; clear q0 Q0; simp only [go_sem])
          refine aops_case 47 rfl (fun hc47 => ?_) (fun hc47 => ?_)
          ·
           simp only [List.set_cons_zero, List.set_cons_succ]
           have hk0 : k = 0 := by (have h9 := hc47; simp at h9; omega)
           iterate 5 (refine aops_chunk 1 fun Q0 q0 => ?_; simp only [↓bO, go_sem, seval, hc0, hc1, hv1, hck, hvk, hw1, hw2, hw3, hw4, dv, hl0, hl1, hlt]; refine q0 _ ?_; clear q0 Q0; simp only [go_sem])
           simp only [↓bO, go_sem, seval, hc0, hc1, hv1, hck, hvk, hw1, hw2, hw3, hw4, dv, hl0, hl1, hlt]
           refine y3 _ ?_
           try clear y3 Y3
           refine AWp_cond rfl (fun hb53 => ?_) (fun hb53 => ?_)
           ·
            have hbad : dgOk s k = false := dg_bad (.inr (.inr ⟨hk0, by have h9 := hb53; simp at h9; omega⟩))
            refine AWp_seqK fun Y3 y3 => ?_
            refine AWp_region ?_
            simp only [↓bO, go_sem, seval, hc0, hc1, hv1, hck, hvk, hw1, hw2, hw3, hw4, dv, hl0, hl1, hlt]
            refine y3 _ ?_
            try clear y3 Y3
            refine AWp_ret ?_
            try simp only [thenQ, blockQ, noGotoQ, retQ, aRes, tupOf, bS, bA]
            refine Le.of_eq (congrArg (fun n => AV.v (.int .i64 n)) ?_)
            exact (nu_bad (by omega) hbad).symm
           ·
            have hn48 : ¬ bt s (2 + k) = 48 := by (have h9 := hb53; simp at h9; omega)
            refine AWp_skip ?_
            try simp only [thenQ, blockQ, noGotoQ]
            refine y2 _ ?_
            try clear y2 Y2
            refine AWp_region ?_
            iterate 8 (refine aops_chunk 1 fun Q0 q0 => ?_; simp only [↓bO, go_sem, seval, hc0, hc1, hv1, hck, hvk, hw1, hw2, hw3, hw4, dv, hl0, hl1, hlt]; refine q0 _ ?_; clear q0 Q0; simp only [go_sem])
            simp only [↓bO, go_sem, seval, hc0, hc1, hv1, hck, hvk, hw1, hw2, hw3, hw4, dv, hl0, hl1, hlt]
            refine y1 _ ?_
            try clear y1 Y1
            refine AWp_region ?_
            iterate 2 (refine aops_chunk 1 fun Q0 q0 => ?_; simp only [↓bO, go_sem, seval, hc0, hc1, hv1, hck, hvk, hw1, hw2, hw3, hw4, dv, hl0, hl1, hlt]; refine q0 _ ?_; clear q0 Q0; simp only [go_sem])
            simp only [↓bO, go_sem, seval, hc0, hc1, hv1, hck, hvk, hw1, hw2, hw3, hw4, dv, hl0, hl1, hlt]
            refine ⟨(k + 1), ⟨by omega, fun j hj => (by rcases Nat.lt_or_ge j k with h3 | h3 <;> first | exact hk.2 j h3 | (obtain rfl : j = k := (by omega); exact dg_good h48 h57 (fun _ => hn48)))⟩, by omega, ?_⟩
            try simp only [maskL, setsL, putsO, putO, mB, List.set_cons_zero, List.set_cons_succ, seval, hck, hvk, hw1, hw2, hw3, hw4, dv, hl0, hl1, hlt]
            exact Weak.mk (by simp only [go_sem, Le.refl, Le.any, Le.slNil, Int.natCast_add, Int.cast_ofNat_Int, Int.natCast_one]) (fun _ _ h => h) rfl rfl
          ·
           simp only [List.set_cons_zero, List.set_cons_succ]
           have hk0 : ¬ k = 0 := by (have h9 := hc47; simp at h9; omega)
           iterate 5 (refine aops_chunk 1 fun Q0 q0 => ?_; simp only [↓bO, go_sem, seval, hc0, hc1, hv1, hck, hvk, hw1, hw2, hw3, hw4, dv, hl0, hl1, hlt]; refine q0 _ ?_; clear q0 Q0; simp only [go_sem])
           simp only [↓bO, go_sem, seval, hc0, hc1, hv1, hck, hvk, hw1, hw2, hw3, hw4, dv, hl0, hl1, hlt]
           refine y3 _ ?_
           try clear y3 Y3
           refine AWp_cond (b := false) (by first | exact rfl | exact congrArg (fun b => AV.v (.bool b)) hb53) (fun h => (by cases h)) (fun _ => ?_)
           refine AWp_skip ?_
           try simp only [thenQ, blockQ, noGotoQ]
           refine y2 _ ?_
           try clear y2 Y2
           refine AWp_region ?_
           iterate 8 (refine aops_chunk 1 fun Q0 q0 => ?_; simp only [↓bO, go_sem, seval, hc0, hc1, hv1, hck, hvk, hw1, hw2, hw3, hw4, dv, hl0, hl1, hlt]; refine q0 _ ?_; clear q0 Q0; simp only [go_sem])
           simp only [↓bO, go_sem, seval, hc0, hc1, hv1, hck, hvk, hw1, hw2, hw3, hw4, dv, hl0, hl1, hlt]
           refine y1 _ ?_
           try clear y1 Y1
           refine AWp_region ?_
           iterate 2 (refine aops_chunk 1 fun Q0 q0 => ?_; simp only [↓bO, go_sem, seval, hc0, hc1, hv1, hck, hvk, hw1, hw2, hw3, hw4, dv, hl0, hl1, hlt]; refine q0 _ ?_; clear q0 Q0; simp only [go_sem])
           simp only [↓bO, go_sem, seval, hc0, hc1, hv1, hck, hvk, hw1, hw2, hw3, hw4, dv, hl0, hl1, hlt]
           refine ⟨(k + 1), ⟨by omega, fun j hj => (by rcases Nat.lt_or_ge j k with h3 | h3 <;> first | exact hk.2 j h3 | (obtain rfl : j = k := (by omega); exact dg_good h48 h57 (fun h => absurd h hk0)))⟩, by omega, ?_⟩
           try simp only [maskL, setsL, putsO, putO, mB, List.set_cons_zero, List.set_cons_succ, seval, hck, hvk, hw1, hw2, hw3, hw4, dv, hl0, hl1, hlt]
           exact Weak.mk (by simp only [go_sem, Le.refl, Le.any, Le.slNil, Int.natCast_add, Int.cast_ofNat_Int, Int.natCast_one]) (fun _ _ h => h) rfl rfl
       ·
        have hge : ¬ 2 + k < s.size := by (have h9 := hb31; simp at h9; omega)
        have hke : s.size - 2 = k := by omega
        have hw5 : IntKind.i64.wrap (26 * dv s k) = 26 * dv s k := by (rw [wrap_in (by omega) (by omega)])
        have hw6 : IntKind.i64.wrap (26 * dv s k + bt s 1) = 26 * dv s k + bt s 1 := by (rw [wrap_in (by omega) (by omega)])
        have hw7 : IntKind.i64.wrap (26 * dv s k + bt s 1 - 97) = 26 * dv s k + bt s 1 - 97 := by (rw [wrap_in (by omega) (by omega)])
        refine AWp_exit ?_
        simp only [thenQ, blockQ, noGotoQ, bA, Nat.reduceEqDiff, ↓reduceIte]
        refine y0 _ ?_
        try clear y0 Y0
        refine AWp_seqK fun Y0 y0 => ?_
        refine AWp_region ?_
        iterate 7 (refine aops_chunk 1 fun Q0 q0 => ?_; simp only [↓bO, go_sem, seval, hc0, hc1, hv1, hl0, hl1, hw5, hw6, hw7]; refine q0 _ ?_; clear q0 Q0; simp only [go_sem])
        simp only [↓bO, go_sem, seval, hc0, hc1, hv1, hl0, hl1, hw5, hw6, hw7]
        refine y0 _ ?_
        try clear y0 Y0
        refine AWp_seqK fun Y0 y0 => ?_
        refine AWp_seqK fun Y1 y1 => ?_
        refine AWp_region ?_
        refine aops_chunk 1 fun Q0 q0 => ?_
        simp only [↓bO, go_sem, seval, hc0, hc1, hv1, hl0, hl1, hw5, hw6, hw7]
        refine q0 _ ?_
        clear q0 Q0
        simp only [go_sem]
        simp only [↓bO, go_sem, seval, hc0, hc1, hv1, hl0, hl1, hw5, hw6, hw7]
        refine y1 _ ?_
        try clear y1 Y1
        refine AWp_cond rfl (fun hb70 => ?_) (fun hb70 => ?_)
        ·
         have h70 : 26 * dv s k + bt s 1 - 97 ≥ 1073741824 := of_decide_eq_true hb70
         refine AWp_seqK fun Y1 y1 => ?_
         refine AWp_region ?_
         simp only [↓bO, go_sem, seval, hc0, hc1, hv1, hl0, hl1, hw5, hw6, hw7]
         refine y1 _ ?_
         try clear y1 Y1
         refine AWp_ret ?_
         try simp only [thenQ, blockQ, noGotoQ, retQ, aRes, tupOf, bS, bA]
         refine Le.of_eq (congrArg (fun n => AV.v (.int .i64 n)) ?_)
         rw [nu_yes hnp (fun j hj => hk.2 j (by omega)), hke, if_neg (by omega)]
        ·
         have h70 : ¬ 26 * dv s k + bt s 1 - 97 ≥ 1073741824 := of_decide_eq_false hb70
         refine AWp_skip ?_
         try simp only [thenQ, blockQ, noGotoQ]
         refine y0 _ ?_
         try clear y0 Y0
         refine AWp_seqK fun Y0 y0 => ?_
         refine AWp_region ?_
         refine aops_chunk 1 fun Q0 q0 => ?_
         simp only [↓bO, go_sem, seval, hc0, hc1, hv1, hl0, hl1, hw5, hw6, hw7]
         refine q0 _ ?_
         clear q0 Q0
         simp only [go_sem]
         simp only [↓bO, go_sem, seval, hc0, hc1, hv1, hl0, hl1, hw5, hw6, hw7]
         refine y0 _ ?_
         try clear y0 Y0
         refine AWp_ret ?_
         try simp only [thenQ, blockQ, noGotoQ, retQ, aRes, tupOf, bS, bA]
         refine Le.of_eq (congrArg (fun n => AV.v (.int .i64 n)) ?_)
         rw [nu_yes hnp (fun j hj => hk.2 j (by omega)), hke, if_pos (by omega)]
end Go.Proofs.YtkokfdmggdhfmaaDoor
namespace Go.Proofs.YtkokfdmggdhfmaaDoor
open Go Go.RowKit
set_option linter.unusedSimpArgs false
set_option linter.unnecessarySimpa false
set_option linter.unusedVariables false
open Go.Lib (decDigits decFrom digitVal)
theorem digVal {d : Nat} (h : d < 10) : digitVal (UInt8.ofNat (48 + d)) = some d := by
  have e : (UInt8.ofNat (48 + d)).toNat = 48 + d := by simp; omega
  unfold digitVal
  rw [e, if_pos ⟨by omega, by omega⟩]; congr 1; omega
theorem decFrom_snoc {l : List UInt8} {a n d : Nat} {c : UInt8} (h : decFrom a l = some n) (hc : digitVal c = some d) : decFrom a (l ++ [c]) = some (n * 10 + d) := by
  have h1 := Lib.decFrom_take (l ++ [c]) l.length a n c d (by rw [List.take_left']; exact h; rfl) (by simp) hc
  rwa [show l.length + 1 = (l ++ [c]).length by simp, List.take_length] at h1
theorem dec_more {n : Nat} (h : ¬ n < 10) : decDigits n = decDigits (n / 10) ++ [UInt8.ofNat (48 + n % 10)] := by rw [decDigits, dif_neg h]
theorem dec_val : ∀ n : Nat, decFrom 0 (decDigits n) = some n := by
  intro n
  induction n using Nat.strongRecOn with
  | _ n ih =>
    by_cases h : n < 10
    · rw [Lib.decDigits_one h]
      simp only [decFrom, digVal h]; simp
    · rw [dec_more h, decFrom_snoc (ih (n / 10) (by omega)) (digVal (by omega))]
      congr 1; omega
theorem dec_pos (n : Nat) : decDigits n ≠ [] := by
  by_cases h : n < 10
  · rw [Lib.decDigits_one h]; simp
  · rw [dec_more h]; simp
theorem dec_len : ∀ (k n : Nat), n < 10 ^ (k + 1) → (decDigits n).length ≤ k + 1
  | 0, n, h => by rw [Lib.decDigits_one (by simpa using h)]; simp
  | k + 1, n, h => by
    by_cases h9 : n < 10
    · rw [Lib.decDigits_one h9]; simp
    · rw [dec_more h9]
      have := dec_len k (n / 10) (by rw [Nat.pow_succ] at h; omega)
      simp only [List.length_append, List.length_cons, List.length_nil]; omega
theorem dec_back : ∀ (k : Nat) (l : List UInt8), l.length = k → l ≠ [] → (∀ c ∈ l, 48 ≤ c.toNat ∧ c.toNat ≤ 57) → l.head? ≠ some 48 → ∃ v, decFrom 0 l = some v ∧ decDigits v = l ∧ 1 ≤ v := by
  intro k
  induction k with
  | zero => intro l h h1; exact absurd (List.eq_nil_of_length_eq_zero h) h1
  | succ k ih =>
    intro l hl h1 hd hh
    obtain ⟨l', c, rfl⟩ : ∃ l' c, l = l' ++ [c] := ⟨l.dropLast, l.getLast h1, (List.dropLast_concat_getLast h1).symm⟩
    have hc := hd c (by simp)
    have hlt : c.toNat - 48 < 10 := by omega
    have ec : UInt8.ofNat (48 + (c.toNat - 48)) = c := by
      apply UInt8.toNat_inj.1; simp; omega
    have hcv := digVal hlt
    rw [ec] at hcv
    by_cases h0 : l' = []
    · subst h0
      refine ⟨c.toNat - 48, ?_, ?_, ?_⟩
      · simp only [List.nil_append, decFrom, hcv]; simp
      · rw [Lib.decDigits_one hlt, ec]; rfl
      · rcases Nat.eq_zero_or_pos (c.toNat - 48) with h | h
        · exfalso; apply hh
          simp only [List.nil_append, List.head?_cons]
          congr 1; apply UInt8.toNat_inj.1
          show c.toNat = 48; omega
        · exact h
    · obtain ⟨v, g1, g2, g3⟩ := ih l' (by simpa using hl) h0 (fun x hx => hd x (by simp [hx])) (by
        cases l' with
        | nil => exact absurd rfl h0
        | cons a r => simpa using hh)
      refine ⟨v * 10 + (c.toNat - 48), decFrom_snoc g1 hcv, ?_, by omega⟩
      rw [dec_more (by omega), show (v * 10 + (c.toNat - 48)) / 10 = v by omega, show (v * 10 + (c.toNat - 48)) % 10 = c.toNat - 48 by omega, g2, ec]
theorem dec_digs : ∀ n : Nat, ∀ c ∈ decDigits n, 48 ≤ c.toNat ∧ c.toNat ≤ 57 := by
  intro n
  induction n using Nat.strongRecOn with
  | _ n ih =>
    intro c hc
    have key : ∀ d : Nat, d < 10 → 48 ≤ (UInt8.ofNat (48 + d)).toNat ∧ (UInt8.ofNat (48 + d)).toNat ≤ 57 := fun d hd => by
      have e : (UInt8.ofNat (48 + d)).toNat = 48 + d := by simp; omega
      omega
    by_cases h : n < 10
    · rw [Lib.decDigits_one h] at hc
      obtain rfl := List.mem_singleton.1 hc; exact key n h
    · rw [dec_more h] at hc
      rcases List.mem_append.1 hc with hc | hc
      · exact ih (n / 10) (by omega) c hc
      · obtain rfl := List.mem_singleton.1 hc; exact key (n % 10) (by omega)
theorem dec_head : ∀ n : Nat, 1 ≤ n → (decDigits n).head? ≠ some 48 := by
  intro n
  induction n using Nat.strongRecOn with
  | _ n ih =>
    intro h1
    by_cases h : n < 10
    · rw [Lib.decDigits_one h]
      intro h9
      have h9 : UInt8.ofNat (48 + n) = 48 := by simpa using h9
      have h8 := congrArg UInt8.toNat h9
      have e : (UInt8.ofNat (48 + n)).toNat = 48 + n := by simp; omega
      rw [e] at h8
      have : (48 : UInt8).toNat = 48 := rfl
      omega
    · rw [dec_more h]
      have := ih (n / 10) (by omega) (by omega)
      cases hd : decDigits (n / 10) with
      | nil => exact absurd hd (dec_pos _)
      | cons a r => rw [hd] at this; simpa using this
theorem atoi_dec {n : Nat} (h : n < 100000000) : Lib.atoiAll (decDigits n) = .ok (n : Int) := by
  have hl := dec_len 8 n (by have : (10 : Nat) ^ 9 = 1000000000 := by decide
                             omega)
  rw [Lib.atoiAll_short _ (by omega)]
  have hv := dec_val n
  cases hd : decDigits n with
  | nil => exact absurd hd (dec_pos n)
  | cons c r =>
    have hc := dec_digs n c (by rw [hd]; simp)
    have h1 : ¬ c = 45 := fun e => by rw [e] at hc; exact absurd hc.1 (by decide)
    have h2 : ¬ c = 43 := fun e => by rw [e] at hc; exact absurd hc.1 (by decide)
    rw [hd] at hv
    simp only [Lib.atoi, beq_iff_eq, h1, h2, if_false, Lib.decNat, List.isEmpty_cons, Bool.false_eq_true, hv, Option.map_some, Lib.NumEnd.ofOption]
theorem bl_itB (n : Nat) : bl (itB (n : Int)) = decDigits n := by
  show (Lib.itoa (n : Int)).toArray.toList = _
  rw [Lib.itoa_nonneg]
theorem nm_small {n : Nat} (h : n < 26) : bl (nmB (n : Int)) = [39, UInt8.ofNat (97 + n)] := by
  rw [nmB_one h]
  have h1 := d26_at ⟨n % 26, by omega⟩
  have h2 := enc26 ⟨n % 26, by omega⟩
  simp only at h1 h2
  rw [h1, h2, show n % 26 = n by omega]
  rfl
theorem nm_great {n : Nat} (h : ¬ n < 26) : bl (nmB (n : Int)) = 39 :: UInt8.ofNat (97 + n % 26) :: decDigits (n / 26) := by
  rw [nmB_more h]
  have h1 := d26_at ⟨n % 26, by omega⟩
  have h2 := enc26 ⟨n % 26, by omega⟩
  simp only at h1 h2
  rw [h1, h2, bl_app, bl_itB]
  rfl
theorem bl_inj {a b : ByteArray} (h : bl a = bl b) : a = b := ByteArray.ext (Array.ext' h)
theorem bl_bt {s : ByteArray} {i : Nat} {c : UInt8} (h : (bl s)[i]? = some c) : bt s i = c.toNat := by
  have hi : i < s.size := by rw [← bl_len]; exact (List.getElem?_eq_some_iff.1 h).1
  have h1 := byte_at hi
  unfold bt
  rw [show s.data.toList = bl s from rfl, h] at h1
  rw [← Option.some.inj h1]
theorem two_bytes {s : ByteArray} (h : 2 ≤ s.size) : ∃ a c ds, bl s = a :: c :: ds := by
  have hl := bl_len s
  match hb : bl s with
  | [] => rw [hb] at hl; simp at hl; omega
  | [_] => rw [hb] at hl; simp at hl; omega
  | a :: c :: ds => exact ⟨a, c, ds, rfl⟩
section
variable {s : ByteArray} {a c : UInt8} {ds : List UInt8}
theorem dg_iff (h : bl s = a :: c :: ds) : (∀ j, j < s.size - 2 → dgOk s j = true) ↔ (∀ x ∈ ds, 48 ≤ x.toNat ∧ x.toNat ≤ 57) ∧ ds.head? ≠ some 48 := by
  have hsz : s.size = 2 + ds.length := by rw [← bl_len, h]; simp; omega
  have hat : ∀ j x, ds[j]? = some x → bt s (2 + j) = x.toNat := fun j x hx => bl_bt (by rw [h, Nat.add_comm]; simpa using hx)
  constructor
  · intro hj
    constructor
    · intro x hx
      obtain ⟨j, hjl, rfl⟩ := List.mem_iff_getElem.1 hx
      have h1 := dgOk_dg (hj j (by omega))
      rw [hat j _ (List.getElem?_eq_getElem hjl)] at h1
      omega
    · intro hh
      cases ds with
      | nil => cases hh
      | cons x r =>
        have hh : x = 48 := by simpa using hh
        subst hh
        have h1 := hj 0 (by simp at hsz; omega)
        have h2 := hat 0 48 rfl
        have e : ((48 : UInt8).toNat : Int) = 48 := rfl
        rw [e] at h2
        unfold dgOk at h1
        have h3 : bt s 2 = 48 := h2
        rw [h3] at h1
        simp at h1
  · rintro ⟨h1, h2⟩ j hj
    have hjl : j < ds.length := by omega
    have h3 := hat j _ (List.getElem?_eq_getElem hjl)
    have h4 := h1 _ (List.getElem_mem hjl)
    refine dg_good (by omega) (by omega) fun hj0 h5 => h2 ?_
    subst hj0
    rw [List.head?_eq_getElem?, List.getElem?_eq_getElem hjl]
    congr 1
    apply UInt8.toNat_inj.1
    have e : (48 : UInt8).toNat = 48 := rfl
    omega
theorem dv_dec (h : bl s = a :: c :: ds) (hd : ∀ x ∈ ds, 48 ≤ x.toNat ∧ x.toNat ≤ 57) : ∀ k, k ≤ ds.length → ∃ v : Nat, decFrom 0 (ds.take k) = some v ∧ dv s k = v
  | 0, _ => ⟨0, rfl, rfl⟩
  | k + 1, hk => by
    obtain ⟨v, h1, h2⟩ := dv_dec h hd k (by omega)
    have h3 := hd _ (List.getElem_mem (show k < ds.length by omega))
    have h4 : digitVal ds[k] = some (ds[k].toNat - 48) := by unfold digitVal; rw [if_pos h3]
    refine ⟨v * 10 + (ds[k].toNat - 48), Lib.decFrom_take ds k 0 v _ _ h1 (List.getElem?_eq_getElem (by omega)) h4, ?_⟩
    have h5 : bt s (2 + k) = ds[k].toNat := bl_bt (by rw [h, Nat.add_comm]; simp)
    rw [dv, h2, h5]; omega
end
theorem nuR_nm {n : Nat} (hn : n < 1073741824) : nuR (nmB (n : Int)) = n := by
  have h39 : ((39 : UInt8).toNat : Int) = 39 := rfl
  have hc : ∀ m : Nat, m < 26 → ((UInt8.ofNat (97 + m)).toNat : Int) = 97 + m := fun m hm => by simp; omega
  by_cases h : n < 26
  · have hb := nm_small h
    have hsz : (nmB (n : Int)).size = 2 := by rw [← bl_len, hb]; rfl
    have b0 := bl_bt (s := nmB (n : Int)) (i := 0) (c := 39) (by rw [hb]; rfl)
    have b1 := bl_bt (s := nmB (n : Int)) (i := 1) (c := UInt8.ofNat (97 + n)) (by rw [hb]; rfl)
    rw [h39] at b0; rw [hc n h] at b1
    rw [nu_yes ⟨by omega, by omega, b0, by omega, by omega⟩ (fun j hj => by omega), hsz, b1, show dv (nmB (n : Int)) (2 - 2) = 0 from rfl, if_pos (by omega)]
    omega
  · have hb := nm_great h
    have hl := dec_len 8 (n / 26) (by have : (10 : Nat) ^ 9 = 1000000000 := by decide
                                      omega)
    have hp := dec_pos (n / 26)
    have hsz : (nmB (n : Int)).size = 2 + (decDigits (n / 26)).length := by rw [← bl_len, hb]; simp; omega
    have b0 := bl_bt (s := nmB (n : Int)) (i := 0) (c := 39) (by rw [hb]; rfl)
    have b1 := bl_bt (s := nmB (n : Int)) (i := 1) (c := UInt8.ofNat (97 + n % 26)) (by rw [hb]; rfl)
    rw [h39] at b0; rw [hc _ (by omega)] at b1
    have hg := (dg_iff hb).2 ⟨dec_digs _, dec_head _ (by omega)⟩
    obtain ⟨v, h1, h2⟩ := dv_dec hb (dec_digs _) _ (Nat.le_refl _)
    rw [List.take_length, dec_val] at h1
    obtain rfl := Option.some.inj h1
    have e : (nmB (n : Int)).size - 2 = (decDigits (n / 26)).length := by omega
    rw [nu_yes ⟨by omega, by omega, b0, by omega, by omega⟩ hg, e, h2, b1, if_pos (by omega)]
    omega
theorem nm_nuR {s : ByteArray} (h : 0 ≤ nuR s) : nuR s < 1073741824 ∧ nmB (nuR s) = s := by
  by_cases hp : nuP s ∧ ((List.range (s.size - 2)).all fun j => dgOk s j) = true
  · have hg : ∀ j, j < s.size - 2 → dgOk s j = true := fun j hj => List.all_eq_true.1 hp.2 j (List.mem_range.2 hj)
    have hy := nu_yes hp.1 hg
    obtain ⟨p1, p2, p3, p4, p5⟩ := hp.1
    obtain ⟨a, c, ds, hb⟩ := two_bytes p1
    have b0 := bl_bt (s := s) (i := 0) (c := a) (by rw [hb]; rfl)
    have b1 := bl_bt (s := s) (i := 1) (c := c) (by rw [hb]; rfl)
    have ha : a = 39 := by apply UInt8.toNat_inj.1; show a.toNat = 39; omega
    have hsz : s.size = 2 + ds.length := by rw [← bl_len, hb]; simp; omega
    have hd := (dg_iff hb).1 hg
    obtain ⟨v, h1, h2⟩ := dv_dec hb hd.1 _ (Nat.le_refl _)
    rw [List.take_length] at h1
    rw [show s.size - 2 = ds.length by omega, h2] at hy
    split at hy
    · rename_i hlt
      have hn : nuR s = ((26 * v + (c.toNat - 97) : Nat) : Int) := by rw [hy]; omega
      refine ⟨by rw [hy]; omega, ?_⟩
      rw [hn]
      have ec : ∀ m, m = c.toNat - 97 → UInt8.ofNat (97 + m) = c := fun m hm => by apply UInt8.toNat_inj.1; simp; omega
      apply bl_inj
      cases hds : ds with
      | nil =>
        rw [hds] at h1
        obtain rfl : 0 = v := by simpa [decFrom] using h1
        rw [nm_small (by omega), hb, hds, ha, ec _ (by omega)]
      | cons x r =>
        obtain ⟨v2, g1, g2, g3⟩ := dec_back _ ds rfl (by rw [hds]; simp) hd.1 hd.2
        obtain rfl : v = v2 := Option.some.inj (h1.symm.trans g1)
        rw [nm_great (by omega), show (26 * v + (c.toNat - 97)) / 26 = v by omega, show (26 * v + (c.toNat - 97)) % 26 = c.toNat - 97 by omega, g2, hb, ha, ec _ rfl]
    · rw [hy] at h; omega
  · unfold nuR at h
    rw [if_neg hp] at h; omega
end Go.Proofs.YtkokfdmggdhfmaaDoor
namespace Go.Proofs.YtkokfdmggdhfmaaDoor
open Go Go.RowKit
set_option linter.unusedSimpArgs false
set_option linter.unnecessarySimpa false
set_option linter.unusedVariables false
abbrev PwR := Ty × ByteArray × Bool
def pwIn (c : Int) : Bool := decide (c = 39 ∨ (97 ≤ c ∧ c ≤ 122) ∨ (48 ≤ c ∧ c ≤ 57))
def pwNum (s : ByteArray) : Int := if 0 ≤ nuR s then nuR s else 0
def pwName (s : ByteArray) : PwR := (.mk 1 (pwNum (s.extract 0 (runN s 0 pwIn))) [], s.extract (runN s 0 pwIn) s.size, !decide (0 ≤ nuR (s.extract 0 (runN s 0 pwIn))))
def pwRest (W : ByteArray → PwR) : Nat → List Ty → ByteArray → Bool → List Ty × ByteArray × Bool
  | 0, acc, s, b => (acc, s, b)
  | n + 1, acc, s, b => if b = false ∧ hasP s bSt = true then pwRest W n (acc ++ [(W (cutP s bSt)).1]) (W (cutP s bSt)).2.1 (W (cutP s bSt)).2.2 else (acc, s, b)
def pwOne (l : List Ty) : Ty := match l with
  | [t] => t
  | l => .mk 5 0 l
def pwEnd (r : List Ty × ByteArray × Bool) : PwR := (pwOne r.1, if r.2.2 = false ∧ hasP r.2.1 bRp = true then cutP r.2.1 bRp else r.2.1, !decide (r.2.2 = false ∧ hasP r.2.1 bRp = true))
def pwInner (W : ByteArray → PwR) (s : ByteArray) : PwR := pwEnd (pwRest W (s.size + 1) [(W s).1] (W s).2.1 (W s).2.2)
def pwHead (W : ByteArray → PwR) (s : ByteArray) : PwR :=
  if hasP s bInt = true then (.mk 2 0 [], cutP s bInt, false) else if hasP s bBool = true then (.mk 3 0 [], cutP s bBool, false)
  else if hasP s bLp = true then pwInner W (cutP s bLp) else pwName s
def pwTail (W : ByteArray → PwR) (r : PwR) : PwR := if r.2.2 = false ∧ hasP r.2.1 bAr = true then (.mk 4 0 [r.1, (W (cutP r.2.1 bAr)).1], (W (cutP r.2.1 bAr)).2) else r
def pwF : Nat → ByteArray → PwR
  | 0, s => (.mk 0 0 [], s, true)
  | f + 1, s => pwTail (pwF f) (pwHead (pwF f) s)
theorem bl_cutP (s p : ByteArray) : bl (cutP s p) = if hasP s p = true then (bl s).drop p.size else bl s := by
  show (Lib.trimPrefix (bl s) (bl p)) = _
  unfold Lib.trimPrefix hasP
  rw [← bl_len]
theorem hasP_iff {s p : ByteArray} : hasP s p = true ↔ ∃ r, s = p ++ r := by
  unfold hasP Lib.hasPrefix
  rw [List.isPrefixOf_iff_prefix]
  constructor
  · rintro ⟨r, hr⟩
    refine ⟨⟨r.toArray⟩, bl_inj ?_⟩
    rw [bl_app]; exact hr.symm
  · rintro ⟨r, rfl⟩
    exact ⟨bl r, (bl_app p r).symm⟩
theorem hasP_app (p r : ByteArray) : hasP (p ++ r) p = true := hasP_iff.2 ⟨r, rfl⟩
theorem cutP_app (p r : ByteArray) : cutP (p ++ r) p = r := by
  apply bl_inj
  rw [bl_cutP, if_pos (hasP_app p r), bl_app, ← bl_len, List.drop_left']; rfl
theorem cutP_size {s p : ByteArray} (h : hasP s p = true) : (cutP s p).size + p.size = s.size := by
  obtain ⟨r, rfl⟩ := hasP_iff.1 h
  rw [cutP_app, ByteArray.size_append]; omega
theorem hasP_hd {s p : ByteArray} (hp : bl p ≠ []) (h : (bl s).head? ≠ (bl p).head?) : hasP s p = false := by
  rw [Bool.eq_false_iff]
  intro h9
  obtain ⟨r, rfl⟩ := hasP_iff.1 h9
  apply h
  rw [bl_app]
  cases hb : bl p with
  | nil => exact absurd hb hp
  | cons a l => rfl
def PwB (s : ByteArray) (r : PwR) : Prop := r.1.cnt + 2 * r.2.1.size ≤ 2 * s.size + 1
theorem PwB.le {s : ByteArray} {r : PwR} (h : PwB s r) : r.2.1.size ≤ s.size := by
  have := cnt_pos' r.1
  unfold PwB at h; omega
theorem ex_size (s : ByteArray) {a b : Nat} (h : a ≤ b) (h2 : b ≤ s.size) : (s.extract a b).size = b - a := by
  rw [ByteArray.size_extract]; omega
theorem pwName_bnd (s : ByteArray) : PwB s (pwName s) := by
  have h := runN_le s 0 pwIn (by omega)
  unfold PwB pwName
  rw [cnt_mk, ex_size s (by omega) (Nat.le_refl _)]
  simp only [Ty.cntL]; omega
theorem cntL_snoc (l : List Ty) (t : Ty) : Ty.cntL (l ++ [t]) = Ty.cntL l + t.cnt := by
  induction l with
  | nil => simp [Ty.cntL]
  | cons x l ih => simp only [List.cons_append, Ty.cntL, ih]; omega
theorem bSt_size : bSt.size = 3 := rfl
theorem bAr_size : bAr.size = 4 := rfl
theorem bLp_size : bLp.size = 1 := rfl
theorem bRp_size : bRp.size = 1 := rfl
section
variable {W : ByteArray → PwR}
theorem pwRest_bnd {N : Nat} (hW : ∀ x, PwB x (W x)) : ∀ (n : Nat) (acc : List Ty) (s : ByteArray) (b : Bool), Ty.cntL acc + 2 * s.size ≤ N →
    Ty.cntL (pwRest W n acc s b).1 + 2 * (pwRest W n acc s b).2.1.size ≤ N
  | 0, acc, s, b, h => h
  | n + 1, acc, s, b, h => by
    rw [pwRest]
    split
    · rename_i hc
      refine pwRest_bnd hW n _ _ _ ?_
      have h1 := hW (cutP s bSt)
      have h2 := cutP_size hc.2
      unfold PwB at h1
      rw [cntL_snoc]; rw [bSt_size] at h2; omega
    · exact h
theorem pwOne_cnt (l : List Ty) : (pwOne l).cnt ≤ 1 + Ty.cntL l := by
  unfold pwOne
  split
  · simp [Ty.cntL]
  · rw [cnt_mk]; exact Nat.le_refl _
theorem pwEnd_bnd {N : Nat} {r : List Ty × ByteArray × Bool} (h : Ty.cntL r.1 + 2 * r.2.1.size ≤ N) : (pwEnd r).1.cnt + 2 * (pwEnd r).2.1.size ≤ N + 1 := by
  have h1 := pwOne_cnt r.1
  unfold pwEnd
  dsimp only
  split
  · rename_i hc
    have h2 := cutP_size hc.2
    omega
  · omega
theorem pwInner_bnd (hW : ∀ x, PwB x (W x)) (s : ByteArray) : (pwInner W s).1.cnt + 2 * (pwInner W s).2.1.size ≤ 2 * s.size + 2 := by
  have h1 := hW s
  unfold PwB at h1
  exact pwEnd_bnd (pwRest_bnd hW _ _ _ _ (by simp only [Ty.cntL]; omega))
theorem pwHead_bnd (hW : ∀ x, PwB x (W x)) (s : ByteArray) : PwB s (pwHead W s) := by
  unfold pwHead
  split
  · rename_i h
    have := cutP_size h
    unfold PwB; rw [cnt_mk]; simp only [Ty.cntL]; omega
  split
  · rename_i h
    have := cutP_size h
    unfold PwB; rw [cnt_mk]; simp only [Ty.cntL]; omega
  split
  · rename_i h
    have h1 := cutP_size h
    have h2 := pwInner_bnd hW (cutP s bLp)
    rw [bLp_size] at h1
    unfold PwB; omega
  · exact pwName_bnd s
theorem pwTail_bnd (hW : ∀ x, PwB x (W x)) {s : ByteArray} {r : PwR} (h : PwB s r) : PwB s (pwTail W r) := by
  unfold pwTail
  split
  · rename_i hc
    have h1 := cutP_size hc.2
    have h2 := hW (cutP r.2.1 bAr)
    rw [bAr_size] at h1
    unfold PwB at h h2 ⊢
    rw [cnt_mk]; simp only [Ty.cntL]; omega
  · exact h
end
theorem pwF_bnd : ∀ (f : Nat) (s : ByteArray), PwB s (pwF f s)
  | 0, s => by unfold PwB pwF; rw [cnt_mk]; simp only [Ty.cntL]; omega
  | f + 1, s => by rw [pwF]; exact pwTail_bnd (pwF_bnd f) (pwHead_bnd (pwF_bnd f) s)
def OkH (r : ByteArray) : Prop := (bl r).head? = none ∨ (bl r).head? = some 41 ∨ (bl r).head? = some 32
theorem pw_in {c : UInt8} (h : c = 39 ∨ (97 ≤ c.toNat ∧ c.toNat ≤ 122) ∨ (48 ≤ c.toNat ∧ c.toNat ≤ 57)) : pwIn c.toNat = true := by
  unfold pwIn
  rw [decide_eq_true_eq]
  rcases h with rfl | h | h
  · exact .inl rfl
  · exact .inr (.inl (by omega))
  · exact .inr (.inr (by omega))
theorem nm_bytes {n : Nat} (hn : n < 1073741824) : ∀ c ∈ bl (nmB (n : Int)), pwIn c.toNat = true := by
  have h1 : ∀ m, m < 26 → pwIn (UInt8.ofNat (97 + m)).toNat = true := fun m hm => pw_in (.inr (.inl (by simp; omega)))
  intro c hc
  by_cases h : n < 26
  · rw [nm_small h] at hc
    simp only [List.mem_cons, List.not_mem_nil, or_false] at hc
    rcases hc with rfl | rfl
    · rfl
    · exact h1 n h
  · rw [nm_great h] at hc
    simp only [List.mem_cons] at hc
    rcases hc with rfl | rfl | hc
    · rfl
    · exact h1 _ (by omega)
    · exact pw_in (.inr (.inr (dec_digs _ c hc)))
theorem nm_head (n : Nat) (hn : n < 1073741824) : (bl (nmB (n : Int))).head? = some 39 := by
  by_cases h : n < 26
  · rw [nm_small h]; rfl
  · rw [nm_great h]; rfl
theorem pw_run {x r : ByteArray} (hx : ∀ c ∈ bl x, pwIn c.toNat = true) (hr : OkH r) : runN (x ++ r) 0 pwIn = x.size := by
  unfold runN
  show (((bl (x ++ r)).drop 0).takeWhile fun b => pwIn b.toNat).length = x.size
  rw [List.drop_zero, bl_app, List.takeWhile_append_of_pos hx, List.length_append, bl_len]
  have h : (bl r).takeWhile (fun b => pwIn b.toNat) = [] := by
    cases hb : bl r with
    | nil => rfl
    | cons c l =>
      unfold OkH at hr
      rw [hb] at hr
      have h2 : pwIn c.toNat = false := by
        rcases hr with h | h | h
        · cases h
        · obtain rfl : c = 41 := by simpa using h
          rfl
        · obtain rfl : c = 32 := by simpa using h
          rfl
      rw [List.takeWhile_cons, if_neg (by simp [h2])]
  rw [h]; rfl
theorem ex_left (x r : ByteArray) : (x ++ r).extract 0 x.size = x := by
  apply bl_inj
  have h := ex_at (s := x ++ r) (P := []) (X := bl x) (S := bl r) (by rw [bl_app]; rfl)
  simp only [List.length_nil, Nat.zero_add, bl_len] at h
  rw [h]
theorem ex_right (x r : ByteArray) : (x ++ r).extract x.size (x ++ r).size = r := by
  apply bl_inj
  have h := ex_at (s := x ++ r) (P := bl x) (X := bl r) (S := []) (by rw [bl_app]; simp)
  simp only [bl_len] at h
  rw [ByteArray.size_append, h]
theorem pwName_nm {n : Nat} (hn : n < 1073741824) {r : ByteArray} (hr : OkH r) : pwName (nmB (n : Int) ++ r) = (.mk 1 n [], r, false) := by
  unfold pwName
  rw [pw_run (nm_bytes hn) hr, ex_left, ex_right]
  unfold pwNum
  rw [nuR_nm hn, if_pos (by omega), decide_eq_true (by omega : (0 : Int) ≤ (n : Int))]
  rfl
def jt : List Ty → ByteArray
  | [] => ByteArray.empty
  | p :: ps => bSt ++ (p.btx ++ jt ps)
theorem bl_emp : bl ByteArray.empty = [] := rfl
theorem jt_bl : ∀ ps : List Ty, bl (jt ps) = Lib.joinTail (bl bSt) ((ps.map Ty.btx).map bl)
  | [] => rfl
  | p :: ps => by rw [jt, bl_app, bl_app, jt_bl ps, List.map_cons, List.map_cons, joinTail_cons]
theorem join_jt (p : Ty) (ps : List Ty) : joinB ((p :: ps).map Ty.btx) bSt = p.btx ++ jt ps := by
  apply bl_inj
  rw [bl_join, bl_app, jt_bl]
theorem ba_assoc (a b c : ByteArray) : a ++ b ++ c = a ++ (b ++ c) := by
  apply bl_inj; simp only [bl_app, List.append_assoc]
theorem okH_jt (ps : List Ty) (r : ByteArray) : OkH (jt ps ++ (bRp ++ r)) := by
  unfold OkH
  cases ps with
  | nil => right; left; rw [bl_app, bl_app]; rfl
  | cons p ps => right; right; rw [jt, bl_app, bl_app]; rfl
theorem hd_app {a r : ByteArray} {c : UInt8} (h : (bl a).head? = some c) : (bl (a ++ r)).head? = some c := by
  rw [bl_app]
  cases hb : bl a with
  | nil => rw [hb] at h; cases h
  | cons x l => rw [hb] at h; exact h
theorem noAr_jt (ps : List Ty) (r : ByteArray) : hasP (jt ps ++ (bRp ++ r)) bAr = false := by
  cases ps with
  | nil =>
    refine hasP_hd (by decide) ?_
    rw [jt, bl_app, bl_app, bl_emp]
    show some (41 : UInt8) ≠ some 32
    decide
  | cons p ps =>
    rw [Bool.eq_false_iff]
    intro h
    obtain ⟨x, hx⟩ := hasP_iff.1 h
    have h1 := congrArg bl hx
    simp only [jt, ba_assoc, bl_app] at h1
    have e1 : bl bSt = [32, 42, 32] := rfl
    have e2 : bl bAr = [32, 45, 62, 32] := rfl
    rw [e1, e2] at h1
    simp at h1
section
variable {f : Nat}
def PwA (T : Ty) : Prop := ∀ (f : Nat) (r : ByteArray), T.btx.size ≤ f → OkH r → pwHead (pwF f) (T.btx ++ r) = (T, r, false)
def PwT (T : Ty) : Prop := ∀ (f : Nat) (r : ByteArray), T.tx.size < f → OkH r → hasP r bAr = false → pwF f (T.tx ++ r) = (T, r, false)
theorem tail_no {W : ByteArray → PwR} {T : Ty} {r : ByteArray} (h : hasP r bAr = false) : pwTail W (T, r, false) = (T, r, false) := by
  unfold pwTail; rw [if_neg fun h9 => by rw [h] at h9; cases h9.2]
theorem PwA.whole {T : Ty} (h : PwA T) {f : Nat} {r : ByteArray} (hf : T.btx.size < f) (hr : OkH r) (hn : hasP r bAr = false) : pwF f (T.btx ++ r) = (T, r, false) := by
  obtain ⟨g, rfl⟩ : ∃ g, f = g + 1 := ⟨f - 1, by omega⟩
  rw [pwF, h g r (by omega) hr, tail_no hn]
theorem rest_jt {f : Nat} {r : ByteArray} : ∀ (ps : List Ty) (acc : List Ty) (n : Nat), (∀ p ∈ ps, PwA p) → (∀ p ∈ ps, p.btx.size < f) → ps.length < n → pwRest (pwF f) n acc (jt ps ++ (bRp ++ r)) false = (acc ++ ps, bRp ++ r, false)
  | [], acc, n, _, _, hn => by
    obtain ⟨m, rfl⟩ : ∃ m, n = m + 1 := ⟨n - 1, by omega⟩
    have h : hasP (jt [] ++ (bRp ++ r)) bSt = false := by
      refine hasP_hd (by decide) ?_
      rw [jt, bl_app, bl_app, bl_emp]
      show some (41 : UInt8) ≠ some 32
      decide
    rw [pwRest, if_neg fun h9 => (by rw [h] at h9; cases h9.2), List.append_nil]
    have e9 : jt [] ++ (bRp ++ r) = bRp ++ r := by apply bl_inj; rw [jt, bl_app, bl_emp]; rfl
    rw [e9]
  | p :: ps, acc, n, h1, h2, hn => by
    obtain ⟨m, rfl⟩ : ∃ m, n = m + 1 := ⟨n - 1, by omega⟩
    have e : jt (p :: ps) ++ (bRp ++ r) = bSt ++ (p.btx ++ (jt ps ++ (bRp ++ r))) := by rw [jt]; simp only [ba_assoc]
    have h3 := (h1 p (by simp)).whole (f := f) (r := jt ps ++ (bRp ++ r)) (h2 p (by simp)) (okH_jt ps r) (noAr_jt ps r)
    rw [e, pwRest, if_pos ⟨rfl, hasP_app _ _⟩, cutP_app, h3]
    rw [rest_jt ps _ m (fun q hq => h1 q (by simp [hq])) (fun q hq => h2 q (by simp [hq])) (by simpa using hn), List.append_assoc]; rfl
theorem head_lp (W : ByteArray → PwR) (s : ByteArray) : pwHead W (bLp ++ s) = pwInner W s := by
  have h0 : (bl (bLp ++ s)).head? = some 40 := hd_app rfl
  unfold pwHead
  rw [if_neg (by rw [hasP_hd (by decide) (by rw [h0]; decide)]; simp), if_neg (by rw [hasP_hd (by decide) (by rw [h0]; decide)]; simp), if_pos (hasP_app _ _), cutP_app]
theorem end_rp (l : List Ty) (r : ByteArray) : pwEnd (l, bRp ++ r, false) = (pwOne l, r, false) := by
  unfold pwEnd
  dsimp only
  rw [if_pos ⟨rfl, hasP_app _ _⟩, cutP_app, decide_eq_true ⟨rfl, hasP_app _ _⟩]; rfl
theorem okH_rp (r : ByteArray) : OkH (bRp ++ r) := .inr (.inl (hd_app rfl))
theorem noAr_rp (r : ByteArray) : hasP (bRp ++ r) bAr = false := hasP_hd (by decide) (by rw [hd_app (c := 41) rfl]; decide)
theorem noSt_rp (r : ByteArray) : hasP (bRp ++ r) bSt = false := hasP_hd (by decide) (by rw [hd_app (c := 41) rfl]; decide)
theorem PwT.brack {T : Ty} (h : PwT T) {f : Nat} {r : ByteArray} (hf : T.tx.size < f) : pwHead (pwF f) (bLp ++ T.tx ++ bRp ++ r) = (T, r, false) := by
  have e : bLp ++ T.tx ++ bRp ++ r = bLp ++ (T.tx ++ (bRp ++ r)) := by simp only [ba_assoc]
  rw [e, head_lp]
  unfold pwInner
  rw [h f (bRp ++ r) hf (okH_rp r) (noAr_rp r)]
  dsimp only
  rw [pwRest, if_neg fun h9 => (by rw [noSt_rp] at h9; cases h9.2), end_rp]
  rfl
theorem mem_btx_size {ps : List Ty} {p : Ty} (h : p ∈ ps) : p.btx.size ≤ (joinB (ps.map Ty.btx) bSt).size := by
  have key : ∀ (qs : List Ty), p ∈ qs → p.btx.size ≤ (jt qs).size := by
    intro qs
    induction qs with
    | nil => intro h; cases h
    | cons q qs ih =>
      intro h
      rw [jt, ByteArray.size_append, ByteArray.size_append]
      rcases List.mem_cons.1 h with rfl | h
      · omega
      · have := ih h; omega
  cases ps with
  | nil => cases h
  | cons q qs =>
    rw [join_jt, ByteArray.size_append]
    rcases List.mem_cons.1 h with rfl | h
    · omega
    · have := key qs h; omega
theorem jt_len : ∀ ps : List Ty, ps.length ≤ (jt ps).size
  | [] => by simp
  | p :: ps => by
    have := jt_len ps
    rw [jt, ByteArray.size_append, ByteArray.size_append, bSt_size]
    simp only [List.length_cons]; omega
theorem ty_eta (T : Ty) : T = .mk T.k T.n T.ps := by cases T; rfl
theorem pw_all : ∀ T : Ty, T.right = true → PwA T ∧ PwT T := by
  refine Ty.ind fun T ih => ?_
  intro hr
  have hok := right_ok hr
  have hp := right_part hr
  have fromA : ¬ T.k = 4 → PwA T → PwA T ∧ PwT T := fun h4 hA => ⟨hA, fun f r hf hrr hn => by
    have hb := btx_of h4
    have := hA.whole (f := f) (r := r) (by rw [hb]; exact hf) hrr hn
    rwa [hb] at this⟩
  by_cases h1 : T.k = 1
  · refine fromA (by omega) fun f r hf hrr => ?_
    have hv := right_var hr h1
    have e0 : T.tx = nmB T.n := by rw [T.tx_eq, if_pos h1]
    have e1 : ((T.n.toNat : Nat) : Int) = T.n := by omega
    have hps : T.ps = [] := List.eq_nil_of_length_eq_zero (by omega)
    have hd : (bl (nmB T.n ++ r)).head? = some 39 := hd_app (by rw [← e1]; exact nm_head _ (by omega))
    rw [btx_of (by omega), e0]
    unfold pwHead
    rw [if_neg (by rw [hasP_hd (by decide) (by rw [hd]; decide)]; simp), if_neg (by rw [hasP_hd (by decide) (by rw [hd]; decide)]; simp), if_neg (by rw [hasP_hd (by decide) (by rw [hd]; decide)]; simp)]
    have := pwName_nm (n := T.n.toNat) (by omega) hrr
    rw [e1] at this
    rw [this, ← h1, ← hps, ← ty_eta]
  by_cases h2 : T.k = 2
  · refine fromA (by omega) fun f r hf hrr => ?_
    have e0 : T.tx = bInt := by rw [T.tx_eq, if_neg h1, if_pos h2]; rfl
    have e2 : T = .mk 2 0 [] := by rw [ty_eta T, h2, show T.n = 0 by omega, List.eq_nil_of_length_eq_zero (show T.ps.length = 0 by omega)]
    rw [btx_of (by omega), e0]
    unfold pwHead
    rw [if_pos (hasP_app _ _), cutP_app, ← e2]
  by_cases h3 : T.k = 3
  · refine fromA (by omega) fun f r hf hrr => ?_
    have e0 : T.tx = bBool := by rw [T.tx_eq, if_neg h1, if_neg h2, if_pos h3]; rfl
    have e2 : T = .mk 3 0 [] := by rw [ty_eta T, h3, show T.n = 0 by omega, List.eq_nil_of_length_eq_zero (show T.ps.length = 0 by omega)]
    have hd : (bl (bBool ++ r)).head? = some 98 := hd_app rfl
    rw [btx_of (by omega), e0]
    unfold pwHead
    rw [if_neg (by rw [hasP_hd (by decide) (by rw [hd]; decide)]; simp), if_pos (hasP_app _ _), cutP_app, ← e2]
  by_cases h4 : T.k = 4
  · obtain ⟨a, b, hps⟩ := right_four hr h4
    have ha := ih a (by rw [hps]; simp) (hp a (by rw [hps]; simp))
    have hb := ih b (by rw [hps]; simp) (hp b (by rw [hps]; simp))
    have e2 : T = .mk 4 0 [a, b] := by rw [ty_eta T, h4, show T.n = 0 by omega, hps]
    have e0 : T.tx = a.btx ++ bAr ++ b.tx := by rw [e2]; rfl
    have hT : PwT T := fun f r hf hrr hn => by
      obtain ⟨g, rfl⟩ : ∃ g, f = g + 1 := ⟨f - 1, by omega⟩
      have e3 : T.tx ++ r = a.btx ++ (bAr ++ (b.tx ++ r)) := by rw [e0]; simp only [ba_assoc]
      rw [e0, ByteArray.size_append, ByteArray.size_append, bAr_size] at hf
      rw [e3, pwF, ha.1 g _ (by omega) (.inr (.inr (hd_app rfl)))]
      unfold pwTail
      dsimp only
      rw [if_pos ⟨rfl, hasP_app _ _⟩, cutP_app, hb.2 g r (by omega) hrr hn, ← e2]
    refine ⟨fun f r hf hrr => ?_, hT⟩
    have e4 : T.btx = bLp ++ T.tx ++ bRp := by unfold Ty.btx brB; rw [if_pos (by simpa using h4)]
    rw [e4] at hf ⊢
    rw [ByteArray.size_append, ByteArray.size_append, bLp_size, bRp_size] at hf
    exact hT.brack (by omega)
  · have h5 : T.k = 5 := by omega
    refine fromA h4 fun f r hf hrr => ?_
    have e0 : T.tx = bLp ++ joinB (T.ps.map Ty.btx) bSt ++ bRp := by rw [T.tx_eq, if_neg h1, if_neg h2, if_neg h3, if_neg h4]
    have e2 : T = .mk 5 0 T.ps := by
      have := ty_eta T
      rw [h5, show T.n = 0 by omega] at this; exact this
    rw [btx_of h4, e0] at hf ⊢
    rw [ByteArray.size_append, ByteArray.size_append, bLp_size, bRp_size] at hf
    have hm : ∀ p ∈ T.ps, p.btx.size < f := fun p hq => by have := mem_btx_size hq; omega
    obtain ⟨p, q, ps, hps⟩ : ∃ p q ps, T.ps = p :: q :: ps := by
      match hq : T.ps with
      | [] => rw [hq, List.length_nil] at hok; omega
      | [_] => rw [hq, List.length_singleton] at hok; omega
      | p :: q :: ps => exact ⟨p, q, ps, rfl⟩
    have hA : ∀ x ∈ T.ps, PwA x := fun x hx => (ih x hx (hp x hx)).1
    have e3 : bLp ++ joinB (T.ps.map Ty.btx) bSt ++ bRp ++ r = bLp ++ (p.btx ++ (jt (q :: ps) ++ (bRp ++ r))) := by rw [hps, join_jt]; simp only [ba_assoc]
    rw [e3, head_lp]
    unfold pwInner
    have h6 := (hA p (by rw [hps]; simp)).whole (f := f) (r := jt (q :: ps) ++ (bRp ++ r)) (hm p (by rw [hps]; simp)) (okH_jt _ _) (noAr_jt _ _)
    have h7 := jt_len (q :: ps)
    rw [h6]
    dsimp only
    rw [rest_jt (q :: ps) [p] _ (fun x hx => hA x (by rw [hps]; exact List.mem_cons_of_mem _ hx)) (fun x hx => hm x (by rw [hps]; exact List.mem_cons_of_mem _ hx)) (by simp only [ByteArray.size_append]; omega), end_rp]
    show (Ty.mk 5 0 ([p] ++ q :: ps), r, false) = _
    rw [List.singleton_append, ← hps, ← e2]
theorem pw_tx {T : Ty} (h : T.right = true) : pwF (T.tx.size + 1) T.tx = (T, ByteArray.empty, false) := by
  have h1 := (pw_all T h).2 (T.tx.size + 1) ByteArray.empty (by omega) (.inl rfl) (by decide)
  have e : T.tx ++ ByteArray.empty = T.tx := by apply bl_inj; rw [bl_app, bl_emp, List.append_nil]
  rwa [e] at h1
end
end Go.Proofs.YtkokfdmggdhfmaaDoor
namespace Go.Proofs.YtkokfdmggdhfmaaDoor
open Go Go.Shelf
def Tryd.laysC172_ren : Go.Shelf.Ren := ⟨fun | 172 => 72 | 244 => 87 | 245 => 88 | 247 => 99 | 279 => 100 | 280 => 101 | 281 => 102 | 282 => 103 | 287 => 113 | 316 => 114 | 171 => 60 | 205 => 115 | 321 => 122 | 322 => 123 | 243 => 73 | 246 => 89 | 283 => 104 | 284 => 105 | 285 => 106 | 286 => 107 | 129 => 117 | 317 => 116 | 318 => 118 | 319 => 119 | 320 => 120 | 337 => 124 | 338 => 125 | n => n, fun | 9 => 9 | 3 => 3 | 75 => 97 | 76 => 98 | 4 => 4 | 5 => 5 | 167 => 131 | 37 => 92 | 0 => 0 | 85 => 132 | 2 => 2 | 168 => 134 | 53 => 138 | 175 => 157 | 46 => 159 | 210 => 162 | 127 => 109 | 145 => 175 | 143 => 173 | 21 => 21 | 171 => 137 | 173 => 141 | 212 => 166 | 51 => 128 | 20 => 20 | 213 => 167 | 232 => 177 | 233 => 178 | 80 => 100 | n => n, fun | 15 => 3 | 16 => 4 | 17 => 5 | 18 => 6 | 19 => 7 | n => n⟩
theorem Tryd.laysC172 : Go.Proofs.LaysC.n172 Tryd.prog Tryd.laysC172_ren := {
  mixed := by kernel_rfl
  f129 := Tryd.func117.trans (congrArg some (by kernel_rfl))
  f171 := Tryd.func60.trans (congrArg some (by kernel_rfl))
  f172 := Tryd.func72.trans (congrArg some (by kernel_rfl))
  f205 := Tryd.func115.trans (congrArg some (by kernel_rfl))
  f243 := Tryd.func73.trans (congrArg some (by kernel_rfl))
  f244 := Tryd.func87.trans (congrArg some (by kernel_rfl))
  f245 := Tryd.func88.trans (congrArg some (by kernel_rfl))
  f246 := Tryd.func89.trans (congrArg some (by kernel_rfl))
  f247 := Tryd.func99.trans (congrArg some (by kernel_rfl))
  f279 := Tryd.func100.trans (congrArg some (by kernel_rfl))
  f280 := Tryd.func101.trans (congrArg some (by kernel_rfl))
  f281 := Tryd.func102.trans (congrArg some (by kernel_rfl))
  f282 := Tryd.func103.trans (congrArg some (by kernel_rfl))
  f283 := Tryd.func104.trans (congrArg some (by kernel_rfl))
  f284 := Tryd.func105.trans (congrArg some (by kernel_rfl))
  f285 := Tryd.func106.trans (congrArg some (by kernel_rfl))
  f286 := Tryd.func107.trans (congrArg some (by kernel_rfl))
  f287 := Tryd.func113.trans (congrArg some (by kernel_rfl))
  f316 := Tryd.func114.trans (congrArg some (by kernel_rfl))
  f317 := Tryd.func116.trans (congrArg some (by kernel_rfl))
  f318 := Tryd.func118.trans (congrArg some (by kernel_rfl))
  f319 := Tryd.func119.trans (congrArg some (by kernel_rfl))
  f320 := Tryd.func120.trans (congrArg some (by kernel_rfl))
  f321 := Tryd.func122.trans (congrArg some (by kernel_rfl))
  f322 := Tryd.func123.trans (congrArg some (by kernel_rfl))
  f337 := Tryd.func124.trans (congrArg some (by kernel_rfl))
  f338 := Tryd.func125.trans (congrArg some (by kernel_rfl))
  t0 := Tryd.underlying0
  a0 := Tryd.isAgg0
  z0 := Tryd.sizeOf0
  v0 := Tryd.zeroValue0
  t2 := Tryd.underlying2
  a2 := Tryd.isAgg2
  z2 := Tryd.sizeOf2
  v2 := Tryd.zeroValue2
  t3 := Tryd.underlying3
  a3 := Tryd.isAgg3
  z3 := Tryd.sizeOf3
  v3 := Tryd.zeroValue3
  t4 := Tryd.underlying4
  a4 := Tryd.isAgg4
  z4 := Tryd.sizeOf4
  v4 := Tryd.zeroValue4
  t5 := Tryd.underlying5
  a5 := Tryd.isAgg5
  z5 := Tryd.sizeOf5
  v5 := Tryd.zeroValue5
  t9 := Tryd.underlying9
  a9 := Tryd.isAgg9
  z9 := Tryd.sizeOf9
  v9 := Tryd.zeroValue9
  t20 := Tryd.underlying20
  a20 := Tryd.isAgg20
  z20 := Tryd.sizeOf20
  v20 := Tryd.zeroValue20
  t21 := Tryd.underlying21
  a21 := Tryd.isAgg21
  z21 := Tryd.sizeOf21
  v21 := Tryd.zeroValue21
  t37 := Tryd.underlying92
  a37 := Tryd.isAgg92
  z37 := Tryd.sizeOf92
  v37 := Tryd.zeroValue92
  t46 := Tryd.underlying159
  a46 := Tryd.isAgg159
  z46 := Tryd.sizeOf159
  v46 := Tryd.zeroValue159
  t51 := Tryd.underlying128
  a51 := Tryd.isAgg128
  z51 := Tryd.sizeOf128
  v51 := Tryd.zeroValue128
  t53 := Tryd.underlying138
  a53 := Tryd.isAgg138
  z53 := Tryd.sizeOf138
  v53 := Tryd.zeroValue138
  t75 := Tryd.underlying97
  a75 := Tryd.isAgg97
  z75 := Tryd.sizeOf97
  v75 := Tryd.zeroValue97
  t76 := Tryd.underlying98
  a76 := Tryd.isAgg98
  z76 := Tryd.sizeOf98
  v76 := Tryd.zeroValue98
  t85 := Tryd.underlying132
  a85 := Tryd.isAgg132
  z85 := Tryd.sizeOf132
  v85 := Tryd.zeroValue132
  t127 := Tryd.underlying109
  a127 := Tryd.isAgg109
  z127 := Tryd.sizeOf109
  v127 := Tryd.zeroValue109
  t143 := Tryd.underlying173
  a143 := Tryd.isAgg173
  z143 := Tryd.sizeOf173
  v143 := Tryd.zeroValue173
  t145 := Tryd.underlying175
  a145 := Tryd.isAgg175
  z145 := Tryd.sizeOf175
  v145 := Tryd.zeroValue175
  t167 := Tryd.underlying131
  a167 := Tryd.isAgg131
  z167 := Tryd.sizeOf131
  v167 := Tryd.zeroValue131
  t168 := Tryd.underlying134
  a168 := Tryd.isAgg134
  z168 := Tryd.sizeOf134
  v168 := Tryd.zeroValue134
  t171 := Tryd.underlying137
  a171 := Tryd.isAgg137
  z171 := Tryd.sizeOf137
  v171 := Tryd.zeroValue137
  t173 := Tryd.underlying141
  a173 := Tryd.isAgg141
  z173 := Tryd.sizeOf141
  v173 := Tryd.zeroValue141
  t175 := Tryd.underlying157
  a175 := Tryd.isAgg157
  z175 := Tryd.sizeOf157
  v175 := Tryd.zeroValue157
  t210 := Tryd.underlying162
  a210 := Tryd.isAgg162
  z210 := Tryd.sizeOf162
  v210 := Tryd.zeroValue162
  t212 := Tryd.underlying166
  a212 := Tryd.isAgg166
  z212 := Tryd.sizeOf166
  v212 := Tryd.zeroValue166
  t213 := Tryd.underlying167
  a213 := Tryd.isAgg167
  z213 := Tryd.sizeOf167
  t232 := Tryd.underlying177
  a232 := Tryd.isAgg177
  z232 := Tryd.sizeOf177
  v232 := Tryd.zeroValue177
  t233 := Tryd.underlying178
  a233 := Tryd.isAgg178
  z233 := Tryd.sizeOf178
  v233 := Tryd.zeroValue178
  g15 := by kernel_rfl
  g16 := by kernel_rfl
  g17 := by kernel_rfl
  g18 := by kernel_rfl
  g19 := by kernel_rfl
  t80 := Tryd.underlying100
  a80 := Tryd.isAgg100
  z80 := Tryd.sizeOf100
  v80 := Tryd.zeroValue100
  i0 := by kernel_rfl
  i2 := by kernel_rfl
  i3 := by kernel_rfl
  i4 := by kernel_rfl
  i5 := by kernel_rfl
  i9 := by kernel_rfl
  i20 := by kernel_rfl
  i21 := by kernel_rfl
  i37 := by kernel_rfl
  i46 := by kernel_rfl
  i51 := by kernel_rfl
  i53 := by kernel_rfl
  i75 := by kernel_rfl
  i76 := by kernel_rfl
  i80 := by kernel_rfl
  i85 := by kernel_rfl
  i127 := by kernel_rfl
  i143 := by kernel_rfl
  i145 := by kernel_rfl
  i167 := by kernel_rfl
  i168 := by kernel_rfl
  i171 := by kernel_rfl
  i173 := by kernel_rfl
  i175 := by kernel_rfl
  i210 := by kernel_rfl
  i212 := by kernel_rfl
  i232 := by kernel_rfl
  i233 := by kernel_rfl
  m15 := by kernel_rfl
  m16 := by kernel_rfl
  m17 := by kernel_rfl
  m18 := by kernel_rfl
  m19 := by kernel_rfl
  c0 := by kernel_rfl
  c2 := by kernel_rfl
  c3 := by kernel_rfl
  c4 := by kernel_rfl
  c5 := by kernel_rfl
  c9 := by kernel_rfl
  c20 := by kernel_rfl
  c21 := by kernel_rfl
  c37 := by kernel_rfl
  c46 := by kernel_rfl
  c51 := by kernel_rfl
  c53 := by kernel_rfl
  c75 := by kernel_rfl
  c76 := by kernel_rfl
  c80 := by kernel_rfl
  c85 := by kernel_rfl
  c127 := by kernel_rfl
  c143 := by kernel_rfl
  c145 := by kernel_rfl
  c167 := by kernel_rfl
  c168 := by kernel_rfl
  c171 := by kernel_rfl
  c173 := by kernel_rfl
  c175 := by kernel_rfl
  c210 := by kernel_rfl
  c212 := by kernel_rfl
  c213 := by kernel_rfl
  c232 := by kernel_rfl
  c233 := by kernel_rfl }
open Go.RowKit in
theorem Tryd.strconv_Atoi_ok (s : ByteArray) (hmax : s.size ≤ 9223372036854775806) (v : Int) (h : Lib.atoiAll s.data.toList = .ok v) (w : World) :
    Calls Tryd.prog 72 #[.string s] w fun e w' => e = .returned (.tuple #[.int .i64 v, .nilIface]) ∧ (w' = w ∨ ∃ t, w' = Lib.bytesWorld w 5 t) := Any.strconv_Atoi_ok Tryd.laysC172 s hmax v h w
open Go.RowKit in
theorem Tryd.strconv_Atoi_syntax_var (s : ByteArray) (hlim : s.size ≤ 281474976710656) (h : Lib.atoiAll s.data.toList = .«syntax») (tp : TypeId) (p : Value) (w : World) (hvar : w.var? Tryd.prog "strconv.ErrSyntax" = some #[.iface tp p]) :
    Calls Tryd.prog 72 #[.string s] w fun e w' => ∃ N, e = .returned (.tuple #[.int .i64 0, .iface 134 (.pointer (some ⟨N, 0, none⟩))]) ∧ w.heap.size ≤ N ∧ w'.heap[N]? = some (.cells #[.string ⟨#[65, 116, 111, 105]⟩, .string s, .iface tp p] 162 (0, 0)) ∧ Below w.heap.size w w' := Any.strconv_Atoi_syntax_var Tryd.laysC172 s hlim h tp p w hvar
open Go.RowKit in
theorem Tryd.strconv_Atoi_range_var (s : ByteArray) (hlim : s.size ≤ 281474976710656) (h : Lib.atoiAll s.data.toList = .range) (tp : TypeId) (p : Value) (w : World) (hvar : w.var? Tryd.prog "strconv.ErrRange" = some #[.iface tp p]) :
    Calls Tryd.prog 72 #[.string s] w fun e w' => ∃ N, e = .returned (.tuple #[.int .i64 (Lib.atoiSat s.data.toList), .iface 134 (.pointer (some ⟨N, 0, none⟩))]) ∧ w.heap.size ≤ N ∧ w'.heap[N]? = some (.cells #[.string ⟨#[65, 116, 111, 105]⟩, .string s, .iface tp p] 162 (0, 0)) ∧ Below w.heap.size w w' := Any.strconv_Atoi_range_var Tryd.laysC172 s hlim h tp p w hvar
end Go.Proofs.YtkokfdmggdhfmaaDoor
