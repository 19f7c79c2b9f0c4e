/- Texts of the abstract walk, of the contracts and of the plain laws, packed (part 40 of 40): Sg5 Sg6 Sg7 Sg8 Flevels. Conditions: none. -/
import Derived.Test.YtnlonnnhofagaaaDoorPk39
import Derived.Test.YtnlonnnhofagaaaDoorCards
import Derived.Test.YtnlonnnhofagaaaDoorTie
import Derived.LaidSub
import Derived.Lib.LaidTab
import Derived.OpenShut
import Derived.ChangeOld
import Derived.Below
import Derived.LaidMore
import Derived.Lay
import Derived.SevenTiedAt
namespace Go.Proofs.YtnlonnnhofagaaaDoor
open Go Go.RowKit
set_option maxRecDepth 100000
set_option maxHeartbeats 4000000
set_option linter.unusedSimpArgs false
set_option linter.unusedVariables false
attribute [local irreducible] aops dRun
def rC (l : List Tok) (m i e : Int) : List AV := [.sl 4 (l.map Tok.cells), .v (.int .i64 i), .v (.int .i64 m), .v (.int .i64 e)]
def RCalls (f : Nat) (args : List AV) (l : List Tok) (m i e : Int) (R : AV) (j d : Int) : Prop :=
  ACalls Tryd.prog f args [(0, .cells 56 (rC l m i e))] 1 fun r os n => (r = R ∧ os = [(0, .cells 56 (rC l m j d))]) ∧ n = 1
theorem RCalls.at {f : Nat} {args args' : List AV} {l : List Tok} {m i e : Int} {R : AV} {j d : Int} (h : RCalls f args l m i e R j d) {k : Nat} {os' : Os} {nx' : Nat} (hargs : RenL (renOf [k] nx') args args') (hR : Data R)
    (hk : getO os' k = some (.cells 56 (rC l m i e))) (lk : k < nx') {Q' : AV → Os → Nat → Prop} (hq : Q' R (putO os' k (.cells 56 (rC l m j d))) nx') : ACalls Tryd.prog f args' os' nx' Q' := by
  have ren : ∀ i e, RenOs (renOf [k] nx') 0 [.cells 56 (rC l m i e)] [.cells 56 (rC l m i e)] := fun i e => ⟨.cells ⟨.data (Tok.dataSl l), .v _, .v _, .v _, trivial⟩, trivial⟩
  refine ACalls.at (args := args) (obs := [.cells 56 (rC l m i e)]) (obs1 := [.cells 56 (rC l m j d)]) (obs' := [.cells 56 (rC l m i e)]) (obs1' := [.cells 56 (rC l m j d)]) [k] ?_ rfl rfl (by simp) (by simpa using lk) hargs (.data hR) (ren i e) ⟨hk, trivial⟩ (ren j d) hq
  exact h.mono fun r os n ⟨⟨h1, h2⟩, h3⟩ => ⟨h1, h2, h3⟩
theorem rUnd {n : Nat} (h : 1 ≤ n) (l : List Tok) (m i e : Int) : UndOs n [(0, .cells 56 (rC l m i e))] := ⟨by omega, ⟨.data (Tok.dataSl l), .v _ _, .v _ _, .v _ _, trivial⟩, trivial⟩
theorem fail_c (l : List Tok) (m i e : Int) (b : Bool) (c : Int) : RCalls 35 [.ptr 0 0, .v (.bool b), .v (.int .i64 c)] l m (i) (e) (.tup []) (i) (if b = true ∧ e = 0 then c else e) := by
  refine ACalls.clean (C := fun r os' => r = _ ∧ os' = _) ?_
  refine ACalls_intro Tryd.func35 (by kernel_rfl) rfl (by rw [Tryd.ntmps35]; simp) (fun hm => ?_)
  simp only [Tryd.ntmps35, Tryd.results35, List.length_cons, List.length_nil, Nat.reduceAdd, Nat.reduceSub, List.replicate_succ, List.replicate_zero, List.cons_append, List.nil_append]
  refine AWp_seqK fun Y0 y0 => ?_
  refine AWp_region ?_
  iterate 2 (refine aops_chunk 1 fun Q0 q0 => ?_; simp only [↓bO, go_sem, seval, Tok.cells, rC]; refine q0 _ ?_; clear q0 Q0; simp only [go_sem])
  refine aops_case 7 rfl (fun hc7 => ?_) (fun hc7 => ?_)
  ·
   simp only [List.set_cons_zero, List.set_cons_succ]
   have h7 : b = true := by simpa using hc7
   iterate 5 (refine aops_chunk 1 fun Q0 q0 => ?_; simp only [↓bO, go_sem, seval, Tok.cells, rC]; refine q0 _ ?_; clear q0 Q0; simp only [go_sem])
   simp only [↓bO, go_sem, seval, Tok.cells, rC]
   refine y0 _ ?_
   try clear y0 Y0
   refine AWp_cond rfl (fun hb13 => ?_) (fun hb13 => ?_)
   ·
    have h13 : e = 0 := by simpa using hb13
    refine AWp_region ?_
    iterate 4 (refine aops_chunk 1 fun Q0 q0 => ?_; simp only [↓bO, go_sem, seval, Tok.cells, rC]; refine q0 _ ?_; clear q0 Q0; simp only [go_sem])
    simp only [↓bO, go_sem, seval, Tok.cells, rC]
    try simp only [thenQ, blockQ, noGotoQ, retQ, aRes, tupOf, bS, bA]
    rw [if_pos ⟨h7, h13⟩]
    refine ⟨_, _, ⟨rfl, rfl⟩, .data (.tup .nil), rUnd (by omega) _ _ _ _, ?_, ?_, by omega⟩
    · exact Le.refl _
    · first | exact ⟨0, rfl, rfl⟩ | exact ⟨1, rfl, rfl⟩ | exact ⟨2, rfl, rfl⟩ | exact ⟨3, rfl, rfl⟩
   ·
    have h13 : ¬ e = 0 := by simpa using hb13
    refine AWp_skip ?_
    try simp only [thenQ, blockQ, noGotoQ]
    try simp only [thenQ, blockQ, noGotoQ, retQ, aRes, tupOf, bS, bA]
    rw [if_neg fun h => h13 h.2]
    refine ⟨_, _, ⟨rfl, rfl⟩, .data (.tup .nil), rUnd (by omega) _ _ _ _, ?_, ?_, by omega⟩
    · exact Le.refl _
    · first | exact ⟨0, rfl, rfl⟩ | exact ⟨1, rfl, rfl⟩ | exact ⟨2, rfl, rfl⟩ | exact ⟨3, rfl, rfl⟩
  ·
   simp only [List.set_cons_zero, List.set_cons_succ]
   have h7 : ¬ b = true := by simpa using hc7
   iterate 5 (refine aops_chunk 1 fun Q0 q0 => ?_; simp only [↓bO, go_sem, seval, Tok.cells, rC]; refine q0 _ ?_; clear q0 Q0; simp only [go_sem])
   simp only [↓bO, go_sem, seval, Tok.cells, rC]
   refine y0 _ ?_
   try clear y0 Y0
   refine AWp_cond (b := false) (by first | exact rfl | exact congrArg (fun b => AV.v (.bool b)) hb13) (fun h => (by cases h)) (fun _ => ?_)
   refine AWp_skip ?_
   try simp only [thenQ, blockQ, noGotoQ]
   try simp only [thenQ, blockQ, noGotoQ, retQ, aRes, tupOf, bS, bA]
   rw [if_neg fun h => h7 h.1]
   refine ⟨_, _, ⟨rfl, rfl⟩, .data (.tup .nil), rUnd (by omega) _ _ _ _, ?_, ?_, by omega⟩
   · exact Le.refl _
   · first | exact ⟨0, rfl, rfl⟩ | exact ⟨1, rfl, rfl⟩ | exact ⟨2, rfl, rfl⟩ | exact ⟨3, rfl, rfl⟩
theorem sign_c (l : List Tok) (m i e : Int) (k : Int) (s : ByteArray) (hl : l.length ≤ 1048576) : RCalls 36 [.ptr 0 0, .v (.int .i64 k), .v (.string s)] l m (i) (e) (.v (.bool (isT l i k s))) (if isT l i k s = true then i + 1 else i) (e) := by
  refine ACalls.clean (C := fun r os' => r = _ ∧ os' = _) ?_
  refine ACalls_intro Tryd.func36 (by kernel_rfl) rfl (by rw [Tryd.ntmps36]; simp) (fun hm => ?_)
  simp only [Tryd.ntmps36, Tryd.results36, List.length_cons, List.length_nil, Nat.reduceAdd, Nat.reduceSub, List.replicate_succ, List.replicate_zero, List.cons_append, List.nil_append]
  refine AWp_seqK fun Y0 y0 => ?_
  refine AWp_region ?_
  simp only [↓bO, go_sem, seval, Tok.cells, rC]
  refine y0 _ ?_
  try clear y0 Y0
  refine AWp_seqK fun Y0 y0 => ?_
  refine AWp_drawK 47 mixed (by kernel_rfl) fun J0 j0 => ?_
  iterate 6 (simp only [go_sem]; refine dRun_chunk 1 fun Q0 q0 => ?_; simp only [↓dRun, ↓dOp, ↓bO, go_sem, seval, Tok.cells, rC]; refine q0 _ ?_; clear q0 Q0)
  simp only [go_sem]
  refine dRun_case 13 rfl (fun hc13 => ?_) (fun hc13 => ?_)
  ·
   simp only [List.set_cons_zero, List.set_cons_succ]
   have h0 : 0 ≤ i := by simpa using hc13
   iterate 12 (refine dRun_chunk 1 fun Q0 q0 => ?_; simp only [↓dRun, ↓dOp, ↓bO, go_sem, seval, Tok.cells, rC, h0]; refine q0 _ ?_; clear q0 Q0; simp only [go_sem])
   refine dRun_case 25 rfl (fun hc25 => ?_) (fun hc25 => ?_)
   ·
    simp only [List.set_cons_zero, List.set_cons_succ]
    have h1 : i < (l.length : Int) := by simpa using hc25
    obtain ⟨n, rfl⟩ : ∃ n : Nat, i = (n : Int) := ⟨i.toNat, by omega⟩
    have hn : n < l.length := by omega
    obtain ⟨t, ht⟩ : ∃ t, l[n]? = some t := ⟨_, List.getElem?_eq_getElem hn⟩
    have hw : IntKind.i64.wrap ((n : Int) + 1) = (n : Int) + 1 := wrap_in (by omega) (by omega)
    iterate 15 (refine dRun_chunk 1 fun Q0 q0 => ?_; simp only [↓dRun, ↓dOp, ↓bO, go_sem, seval, Tok.cells, rC, h0, hn, gM ht, hw]; refine q0 _ ?_; clear q0 Q0; simp only [go_sem])
    refine dRun_case 40 rfl (fun hc40 => ?_) (fun hc40 => ?_)
    ·
     simp only [List.set_cons_zero, List.set_cons_succ]
     have h2 : t.k = k := by simpa using hc40
     iterate 13 (refine dRun_chunk 1 fun Q0 q0 => ?_; simp only [↓dRun, ↓dOp, ↓bO, go_sem, seval, Tok.cells, rC, h0, hn, gM ht, hw]; refine q0 _ ?_; clear q0 Q0; simp only [go_sem])
     simp only [↓dRun, ↓dOp, ↓bO, go_sem, seval, Tok.cells, rC, h0, hn, gM ht, hw]
     refine j0 _ ?_
     clear j0 J0
     simp only [go_sem]
     simp only [↓bO, go_sem, seval, Tok.cells, rC, h0, hn, gM ht, hw]
     refine y0 _ ?_
     try clear y0 Y0
     refine AWp_seqK fun Y0 y0 => ?_
     refine AWp_seqK fun Y1 y1 => ?_
     refine AWp_region ?_
     simp only [↓bO, go_sem, seval, Tok.cells, rC, h0, hn, gM ht, hw]
     refine y1 _ ?_
     try clear y1 Y1
     refine AWp_cond rfl (fun hb55 => ?_) (fun hb55 => ?_)
     ·
      have h3 : eqS t.s s = true := hb55
      refine AWp_region ?_
      iterate 7 (refine aops_chunk 1 fun Q0 q0 => ?_; simp only [↓bO, go_sem, seval, Tok.cells, rC, h0, hn, gM ht, hw]; refine q0 _ ?_; clear q0 Q0; simp only [go_sem])
      simp only [↓bO, go_sem, seval, Tok.cells, rC, h0, hn, gM ht, hw]
      refine y0 _ ?_
      try clear y0 Y0
      refine AWp_seqK fun Y0 y0 => ?_
      refine AWp_region ?_
      refine aops_chunk 1 fun Q0 q0 => ?_
      simp only [↓bO, go_sem, seval, Tok.cells, rC, h0, hn, gM ht, hw]
      refine q0 _ ?_
      clear q0 Q0
      simp only [go_sem]
      simp only [↓bO, go_sem, seval, Tok.cells, rC, h0, hn, gM ht, hw]
      refine y0 _ ?_
      try clear y0 Y0
      refine AWp_ret ?_
      try simp only [thenQ, blockQ, noGotoQ, retQ, aRes, tupOf, bS, bA]
      rw [(isT_yes (by omega) (by simpa using ht) h2).trans h3, if_pos rfl]
      refine ⟨_, _, ⟨rfl, rfl⟩, .v _ _, rUnd (by omega) _ _ _ _, ?_, ?_, by omega⟩
      · first | exact Le.refl _ | exact Le.of_eq (congrArg (fun b => AV.v (.bool b)) h3)
      · first | exact ⟨0, rfl, rfl⟩ | exact ⟨1, rfl, rfl⟩ | exact ⟨2, rfl, rfl⟩ | exact ⟨3, rfl, rfl⟩
     ·
      have h3 : eqS t.s s = false := hb55
      refine AWp_skip ?_
      try simp only [thenQ, blockQ, noGotoQ]
      refine y0 _ ?_
      try clear y0 Y0
      refine AWp_seqK fun Y0 y0 => ?_
      refine AWp_region ?_
      refine aops_chunk 1 fun Q0 q0 => ?_
      simp only [↓bO, go_sem, seval, Tok.cells, rC, h0, hn, gM ht, hw]
      refine q0 _ ?_
      clear q0 Q0
      simp only [go_sem]
      simp only [↓bO, go_sem, seval, Tok.cells, rC, h0, hn, gM ht, hw]
      refine y0 _ ?_
      try clear y0 Y0
      refine AWp_ret ?_
      try simp only [thenQ, blockQ, noGotoQ, retQ, aRes, tupOf, bS, bA]
      have hr : isT l _ k s = false := (isT_yes (by omega) (by simpa using ht) h2).trans h3
      rw [hr, if_neg (by simp)]
      refine ⟨_, _, ⟨rfl, rfl⟩, .v _ _, rUnd (by omega) _ _ _ _, ?_, ?_, by omega⟩
      · first | exact Le.refl _ | exact Le.of_eq (congrArg (fun b => AV.v (.bool b)) h3)
      · first | exact ⟨0, rfl, rfl⟩ | exact ⟨1, rfl, rfl⟩ | exact ⟨2, rfl, rfl⟩ | exact ⟨3, rfl, rfl⟩
    ·
     simp only [List.set_cons_zero, List.set_cons_succ]
     have h2 : ¬ t.k = k := by simpa using hc40
     iterate 13 (refine dRun_chunk 1 fun Q0 q0 => ?_; simp only [↓dRun, ↓dOp, ↓bO, go_sem, seval, Tok.cells, rC, h0, hn, gM ht, hw]; refine q0 _ ?_; clear q0 Q0; simp only [go_sem])
     simp only [↓dRun, ↓dOp, ↓bO, go_sem, seval, Tok.cells, rC, h0, hn, gM ht, hw]
     refine j0 _ ?_
     clear j0 J0
     simp only [go_sem]
     simp only [↓bO, go_sem, seval, Tok.cells, rC, h0, hn, gM ht, hw]
     refine y0 _ ?_
     try clear y0 Y0
     refine AWp_seqK fun Y0 y0 => ?_
     refine AWp_seqK fun Y1 y1 => ?_
     refine AWp_region ?_
     simp only [↓bO, go_sem, seval, Tok.cells, rC, h0, hn, gM ht, hw]
     refine y1 _ ?_
     try clear y1 Y1
     refine AWp_cond (b := false) (by first | exact rfl | exact congrArg (fun b => AV.v (.bool b)) hb55) (fun h => (by cases h)) (fun _ => ?_)
     refine AWp_skip ?_
     try simp only [thenQ, blockQ, noGotoQ]
     refine y0 _ ?_
     try clear y0 Y0
     refine AWp_seqK fun Y0 y0 => ?_
     refine AWp_region ?_
     refine aops_chunk 1 fun Q0 q0 => ?_
     simp only [↓bO, go_sem, seval, Tok.cells, rC, h0, hn, gM ht, hw]
     refine q0 _ ?_
     clear q0 Q0
     simp only [go_sem]
     simp only [↓bO, go_sem, seval, Tok.cells, rC, h0, hn, gM ht, hw]
     refine y0 _ ?_
     try clear y0 Y0
     refine AWp_ret ?_
     try simp only [thenQ, blockQ, noGotoQ, retQ, aRes, tupOf, bS, bA]
     have hr : isT l _ k s = false := isT_no (by omega) (by simpa using ht) h2
     rw [hr, if_neg (by simp)]
     refine ⟨_, _, ⟨rfl, rfl⟩, .v _ _, rUnd (by omega) _ _ _ _, ?_, ?_, by omega⟩
     · first | exact Le.refl _ | exact Le.of_eq (congrArg (fun b => AV.v (.bool b)) h3)
     · first | exact ⟨0, rfl, rfl⟩ | exact ⟨1, rfl, rfl⟩ | exact ⟨2, rfl, rfl⟩ | exact ⟨3, rfl, rfl⟩
   ·
    simp only [List.set_cons_zero, List.set_cons_succ]
    have h1 : ¬ i < (l.length : Int) := by simpa using hc25
    iterate 28 (refine dRun_chunk 1 fun Q0 q0 => ?_; simp only [↓dRun, ↓dOp, ↓bO, go_sem, seval, Tok.cells, rC, h0]; refine q0 _ ?_; clear q0 Q0; simp only [go_sem])
    simp only [↓dRun, ↓dOp, ↓bO, go_sem, seval, Tok.cells, rC, h0]
    refine j0 _ ?_
    clear j0 J0
    simp only [go_sem]
    simp only [↓bO, go_sem, seval, Tok.cells, rC, h0]
    refine y0 _ ?_
    try clear y0 Y0
    refine AWp_seqK fun Y0 y0 => ?_
    refine AWp_seqK fun Y1 y1 => ?_
    refine AWp_region ?_
    simp only [↓bO, go_sem, seval, Tok.cells, rC, h0]
    refine y1 _ ?_
    try clear y1 Y1
    refine AWp_cond (b := false) (by first | exact rfl | exact congrArg (fun b => AV.v (.bool b)) hb55) (fun h => (by cases h)) (fun _ => ?_)
    refine AWp_skip ?_
    try simp only [thenQ, blockQ, noGotoQ]
    refine y0 _ ?_
    try clear y0 Y0
    refine AWp_seqK fun Y0 y0 => ?_
    refine AWp_region ?_
    refine aops_chunk 1 fun Q0 q0 => ?_
    simp only [↓bO, go_sem, seval, Tok.cells, rC, h0]
    refine q0 _ ?_
    clear q0 Q0
    simp only [go_sem]
    simp only [↓bO, go_sem, seval, Tok.cells, rC, h0]
    refine y0 _ ?_
    try clear y0 Y0
    refine AWp_ret ?_
    try simp only [thenQ, blockQ, noGotoQ, retQ, aRes, tupOf, bS, bA]
    have hr : isT l _ k s = false := isT_out fun h => h1 h.2
    rw [hr, if_neg (by simp)]
    refine ⟨_, _, ⟨rfl, rfl⟩, .v _ _, rUnd (by omega) _ _ _ _, ?_, ?_, by omega⟩
    · first | exact Le.refl _ | exact Le.of_eq (congrArg (fun b => AV.v (.bool b)) h3)
    · first | exact ⟨0, rfl, rfl⟩ | exact ⟨1, rfl, rfl⟩ | exact ⟨2, rfl, rfl⟩ | exact ⟨3, rfl, rfl⟩
  ·
   simp only [List.set_cons_zero, List.set_cons_succ]
   have h0 : ¬ 0 ≤ i := by simpa using hc13
   iterate 40 (refine dRun_chunk 1 fun Q0 q0 => ?_; simp only [↓dRun, ↓dOp, ↓bO, go_sem, seval, Tok.cells, rC]; refine q0 _ ?_; clear q0 Q0; simp only [go_sem])
   simp only [↓dRun, ↓dOp, ↓bO, go_sem, seval, Tok.cells, rC]
   refine j0 _ ?_
   clear j0 J0
   simp only [go_sem]
   simp only [↓bO, go_sem, seval, Tok.cells, rC]
   refine y0 _ ?_
   try clear y0 Y0
   refine AWp_seqK fun Y0 y0 => ?_
   refine AWp_seqK fun Y1 y1 => ?_
   refine AWp_region ?_
   simp only [↓bO, go_sem, seval, Tok.cells, rC]
   refine y1 _ ?_
   try clear y1 Y1
   refine AWp_cond (b := false) (by first | exact rfl | exact congrArg (fun b => AV.v (.bool b)) hb55) (fun h => (by cases h)) (fun _ => ?_)
   refine AWp_skip ?_
   try simp only [thenQ, blockQ, noGotoQ]
   refine y0 _ ?_
   try clear y0 Y0
   refine AWp_seqK fun Y0 y0 => ?_
   refine AWp_region ?_
   refine aops_chunk 1 fun Q0 q0 => ?_
   simp only [↓bO, go_sem, seval, Tok.cells, rC]
   refine q0 _ ?_
   clear q0 Q0
   simp only [go_sem]
   simp only [↓bO, go_sem, seval, Tok.cells, rC]
   refine y0 _ ?_
   try clear y0 Y0
   refine AWp_ret ?_
   try simp only [thenQ, blockQ, noGotoQ, retQ, aRes, tupOf, bS, bA]
   have hr : isT l _ k s = false := isT_out fun h => h0 h.1
   rw [hr, if_neg (by simp)]
   refine ⟨_, _, ⟨rfl, rfl⟩, .v _ _, rUnd (by omega) _ _ _ _, ?_, ?_, by omega⟩
   · first | exact Le.refl _ | exact Le.of_eq (congrArg (fun b => AV.v (.bool b)) h3)
   · first | exact ⟨0, rfl, rfl⟩ | exact ⟨1, rfl, rfl⟩ | exact ⟨2, rfl, rfl⟩ | exact ⟨3, rfl, rfl⟩
def WholeOk (l : List Tok) (m : Int) (g : Nat) : Prop := ∀ i lv : Int, lft l i < g → -1000000 ≤ lv → lv + lft l i ≤ 1000000 →
  RCalls 20 [.ptr 0 0, .v (.int .i64 lv)] l m i 0 (.agg (rdP l m g none i lv).1.cells) (rdP l m g none i lv).2.1 (rdP l m g none i lv).2.2
theorem list_c (l : List Tok) (m : Int) (f : Nat) (hl : l.length ≤ 1048576) (ih : ∀ g, g ≤ f → WholeOk l m g) (i lv : Int) (hi : lft l i < f) (hlv : -1000000 ≤ lv) (hlv2 : lv + lft l i ≤ 1000000) : RCalls 37 [.ptr 0 0, .v (.int .i64 lv), .mth 20 [.ptr 0 0]] l m i 0 (.agg (lsP l m f i lv).1.cells) (lsP l m f i lv).2.1 (lsP l m f i lv).2.2 := by
  refine ACalls.clean (C := fun r os' => r = _ ∧ os' = _) ?_
  refine ACalls_intro Tryd.func37 (by kernel_rfl) rfl (by rw [Tryd.ntmps37]; simp) (fun hm => ?_)
  simp only [Tryd.ntmps37, Tryd.results37, List.length_cons, List.length_nil, Nat.reduceAdd, Nat.reduceSub, List.replicate_succ, List.replicate_zero, List.cons_append, List.nil_append]
  refine AWp_seqK fun Y0 y0 => ?_
  refine AWp_region ?_
  simp only [↓bO, go_sem, seval, Tok.cells, rC]
  refine y0 _ ?_
  try clear y0 Y0
  refine AWp_scope ?_
  refine AWp_seqK fun Y0 y0 => ?_
  refine AWp_midK 3 [_] [_] rfl fun Q0 q0 => ?_
  iterate 2 (simp only [go_sem]; refine aops_chunk 1 fun Q0 q0 => ?_; simp only [↓bO, go_sem, seval, Tok.cells, rC]; refine q0 _ ?_; clear q0 Q0)
  simp only [go_sem]
  simp only [↓bO, go_sem, seval, Tok.cells, rC]
  refine RCalls.at (k := 0) (ih f (Nat.le_refl f) i lv hi hlv hlv2) ?_ (Ty.dataAgg _) rfl (by first | omega | (simp only; omega)) ?_
  · exact ⟨.ptr rfl, .v _, trivial⟩
  simp only [putO, Nat.reduceEqDiff, ↓reduceIte]
  try simp only [bS, bA, thenQ, blockQ, noGotoQ]
  refine q0 _ ?_
  clear q0 Q0
  refine MidAt_lit ei26 (by decide) rfl (by decide) (by intro p hp; simp at hp; subst hp; exact ⟨rfl, Ty.cells_len _⟩) ?_
  simp only [putO, bS, bA, tyX, Tok.cells, List.length_map, rC]
  simp only [↓bO, go_sem, seval, Tok.cells, rC]
  refine y0 _ ?_
  try clear y0 Y0
  refine AWp_seqK fun Y0 y0 => ?_
  refine AWp_label ?_
  try simp only [thenQ, blockQ, noGotoQ]
  refine y0 _ ?_
  try clear y0 Y0
  refine AWp_seqK fun Y0 y0 => ?_
  refine AWp_block ?_
  refine AWp_loopM (σ := LS) (mB 55 199) (fun s => s.ok l m f lv i (lsP l m f i lv)) (fun s => [(7, .osl 2 3 (s.ps.map Ty.cells))]) (fun s => [(2, .tok 28 3 s.ps.length), (0, .cells 56 (rC l m s.i s.e))]) (fun s => if s.e = 0 then s.f + 1 else 0) ⟨f, [(rdP l m f none i lv).1], (rdP l m f none i lv).2.1, (rdP l m f none i lv).2.2⟩ (LS.start l m f i lv hi) ?_ (fun s hs => ?_)
  ·
   try simp only [maskL, setsL, putsO, putO, mB, List.set_cons_zero, List.set_cons_succ, seval, bL]
   exact Weak.mk (by simp only [go_sem, Le.refl, Le.any, Le.slNil, Int.natCast_add, Int.cast_ofNat_Int, Int.natCast_one]) (fun _ _ h => h) rfl rfl
  simp only [maskL, setsL, putsO, putO, mB, List.set_cons_zero, List.set_cons_succ, seval]
  refine AWp_seqK fun Y1 y1 => ?_
  refine AWp_seqK fun Y2 y2 => ?_
  refine AWp_region ?_
  iterate 4 (refine aops_chunk 1 fun Q0 q0 => ?_; simp only [↓bO, go_sem, seval, Tok.cells, rC, List.map_append, List.length_append]; refine q0 _ ?_; clear q0 Q0; simp only [go_sem])
  simp only [↓bO, go_sem, seval, Tok.cells, rC, List.map_append, List.length_append]
  refine y2 _ ?_
  try clear y2 Y2
  refine AWp_cond rfl (fun hb17 => ?_) (fun hb17 => ?_)
  ·
   have he : s.e = 0 := by simpa using hb17
   obtain ⟨g, hg, hgf, hlf⟩ := hs.fuel he
   have h8 := hs.2.1
   refine AWp_skip ?_
   try simp only [thenQ, blockQ, noGotoQ]
   refine y1 _ ?_
   try clear y1 Y1
   refine AWp_block ?_
   refine AWp_seqK fun Y1 y1 => ?_
   refine AWp_region ?_
   iterate 4 (refine aops_chunk 1 fun Q0 q0 => ?_; simp only [↓bO, go_sem, seval, Tok.cells, rC, List.map_append, List.length_append, he]; refine q0 _ ?_; clear q0 Q0; simp only [go_sem])
   simp only [↓bO, go_sem, seval, Tok.cells, rC, List.map_append, List.length_append, he]
   refine y1 _ ?_
   try clear y1 Y1
   refine AWp_block ?_
   refine AWp_seqK fun Y1 y1 => ?_
   refine AWp_region ?_
   refine aops_chunk 1 fun Q0 q0 => ?_
   simp only [↓bO, go_sem, seval, Tok.cells, rC, List.map_append, List.length_append, he]
   refine q0 _ ?_
   clear q0 Q0
   simp only [go_sem]
   refine aops_chunk 1 fun Q0 q0 => ?_
   simp only [↓bO, go_sem, seval, Tok.cells, rC, List.map_append, List.length_append, he]
   refine RCalls.at (k := 0) (sign_c l m s.i 0 4 bClose hl) ?_ (.v _) rfl (by first | omega | (simp only; omega)) ?_
   · exact ⟨.ptr rfl, .v _, .v _, trivial⟩
   simp only [putO, Nat.reduceEqDiff, ↓reduceIte]
   try simp only [bS, bA, thenQ, blockQ, noGotoQ]
   refine q0 _ ?_
   clear q0 Q0
   simp only [go_sem]
   simp only [↓bO, go_sem, seval, Tok.cells, rC, List.map_append, List.length_append, he]
   refine y1 _ ?_
   try clear y1 Y1
   refine AWp_cond rfl (fun hb28 => ?_) (fun hb28 => ?_)
   ·
    have h1 : isT l s.i 4 bClose = true := hb28
    simp only [h1, if_true]
    refine AWp_exit ?_
    simp only [thenQ, blockQ, noGotoQ, bA, Nat.reduceEqDiff, ↓reduceIte]
    refine y0 _ ?_
    try clear y0 Y0
    refine AWp_seqK fun Y0 y0 => ?_
    refine AWp_seqK fun Y1 y1 => ?_
    refine AWp_region ?_
    iterate 2 (refine aops_chunk 1 fun Q0 q0 => ?_; simp only [↓bO, go_sem, seval, Tok.cells, rC, he]; refine q0 _ ?_; clear q0 Q0; simp only [go_sem])
    simp only [↓bO, go_sem, seval, Tok.cells, rC, he]
    refine y1 _ ?_
    try clear y1 Y1
    refine AWp_cond rfl (fun hb49 => ?_) (fun hb49 => ?_)
    ·
     obtain ⟨t1, hps, htp⟩ := tupP_one (ps := s.ps) (by have h9 := hb49; simp at h9; omega)
     simp only [hps, List.map_cons, List.map_nil]
     refine AWp_seqK fun Y1 y1 => ?_
     refine AWp_region ?_
     iterate 3 (refine aops_chunk 1 fun Q0 q0 => ?_; simp only [↓bO, go_sem, seval, Tok.cells, rC, he]; refine q0 _ ?_; clear q0 Q0; simp only [go_sem])
     simp only [↓bO, go_sem, seval, Tok.cells, rC, he]
     refine y1 _ ?_
     try clear y1 Y1
     refine AWp_ret ?_
     try simp only [thenQ, blockQ, noGotoQ, retQ, aRes, tupOf, bS, bA, aLoad, getO, pack, bL, Nat.reduceAdd, Nat.reduceLeDiff, Nat.reduceEqDiff, ↓reduceIte, ti28, tyX, Tok.cells, List.length_map, rC, he]
     rw [hs.close he hg h1]
     refine ⟨_, _, ⟨rfl, rfl⟩, .data (Ty.dataAgg _), rUnd (by omega) _ _ _ _, ?_, ?_, by omega⟩
     · simp only [htp]; exact Le.refl _
     · exact ⟨2, rfl, rfl⟩
    ·
     have hln : ¬ s.ps.length = 1 := by (have h9 := hb49; simp at h9; omega)
     refine AWp_skip ?_
     try simp only [thenQ, blockQ, noGotoQ]
     refine y0 _ ?_
     try clear y0 Y0
     refine AWp_seqK fun Y0 y0 => ?_
     refine AWp_region ?_
     iterate 2 (refine aops_chunk 1 fun Q0 q0 => ?_; simp only [↓bO, go_sem, seval, Tok.cells, rC, he]; refine q0 _ ?_; clear q0 Q0; simp only [go_sem])
     simp only [↓bO, go_sem, seval, Tok.cells, rC, he]
     refine y0 _ ?_
     try clear y0 Y0
     refine AWp_ret ?_
     try simp only [thenQ, blockQ, noGotoQ, retQ, aRes, tupOf, bS, bA, aLoad, getO, pack, bL, Nat.reduceAdd, Nat.reduceLeDiff, Nat.reduceEqDiff, ↓reduceIte, ti28, tyX, Tok.cells, List.length_map, rC, he]
     rw [hs.close he hg h1]
     refine ⟨_, _, ⟨rfl, rfl⟩, .data (Ty.dataAgg _), rUnd (by omega) _ _ _ _, ?_, ?_, by omega⟩
     · simp only [tupP_more hln]; rw [Ty.cells_eq]; exact Le.agg ⟨.refl _, .refl _, Le.osl _ _ _, trivial⟩
     · exact ⟨2, rfl, rfl⟩
   ·
    have h1 : isT l s.i 4 bClose = false := hb28
    simp only [h1, Bool.false_eq_true, if_false]
    refine AWp_seqK fun Y1 y1 => ?_
    refine AWp_region ?_
    refine aops_chunk 1 fun Q0 q0 => ?_
    simp only [↓bO, go_sem, seval, Tok.cells, rC, List.map_append, List.length_append, he]
    refine q0 _ ?_
    clear q0 Q0
    simp only [go_sem]
    refine aops_chunk 1 fun Q0 q0 => ?_
    simp only [↓bO, go_sem, seval, Tok.cells, rC, List.map_append, List.length_append, he]
    refine RCalls.at (k := 0) (sign_c l m s.i 0 4 bStar hl) ?_ (.v _) rfl (by first | omega | (simp only; omega)) ?_
    · exact ⟨.ptr rfl, .v _, .v _, trivial⟩
    simp only [putO, Nat.reduceEqDiff, ↓reduceIte]
    try simp only [bS, bA, thenQ, blockQ, noGotoQ]
    refine q0 _ ?_
    clear q0 Q0
    simp only [go_sem]
    refine aops_chunk 1 fun Q0 q0 => ?_
    simp only [↓bO, go_sem, seval, Tok.cells, rC, List.map_append, List.length_append, he]
    refine q0 _ ?_
    clear q0 Q0
    simp only [go_sem]
    simp only [↓bO, go_sem, seval, Tok.cells, rC, List.map_append, List.length_append, he]
    refine y1 _ ?_
    try clear y1 Y1
    refine AWp_cond rfl (fun hb31 => ?_) (fun hb31 => ?_)
    ·
     have h2 : isT l s.i 4 bStar = false := by simpa using hb31
     simp only [h2, Bool.false_eq_true, if_false]
     refine AWp_region ?_
     refine aops_chunk 1 fun Q0 q0 => ?_
     simp only [↓bO, go_sem, seval, Tok.cells, rC, List.map_append, List.length_append, he]
     refine q0 _ ?_
     clear q0 Q0
     simp only [go_sem]
     simp only [↓bO, go_sem, seval, Tok.cells, rC, List.map_append, List.length_append, he]
     refine RCalls.at (k := 0) (fail_c l m s.i 0 true 3) ?_ (.tup .nil) rfl (by first | omega | (simp only; omega)) ?_
     · exact ⟨.ptr rfl, .v _, .v _, trivial⟩
     simp only [putO, Nat.reduceEqDiff, ↓reduceIte]
     rw [if_pos (by simp)]
     try simp only [bS, bA, thenQ, blockQ, noGotoQ]
     refine ⟨⟨s.f, s.ps, s.i, 3⟩, hs.form he hg h1 h2, by (simp only [he, if_true]; rw [if_neg (by decide)]; omega), ?_⟩
     try simp only [maskL, setsL, putsO, putO, mB, List.set_cons_zero, List.set_cons_succ, seval, List.map_append, bL, List.length_append, he]
     exact Weak.mk (by simp only [go_sem, Le.refl, Le.any, Le.slNil, Int.natCast_add, Int.cast_ofNat_Int, Int.natCast_one]) (fun _ _ h => h) rfl rfl
    ·
     have h2 : isT l s.i 4 bStar = true := by simpa using hb31
     simp only [h2, if_true]
     refine AWp_seqK fun Y1 y1 => ?_
     refine AWp_region ?_
     iterate 3 (refine aops_chunk 1 fun Q0 q0 => ?_; simp only [↓bO, go_sem, seval, Tok.cells, rC, List.map_append, List.length_append, he]; refine q0 _ ?_; clear q0 Q0; simp only [go_sem])
     simp only [↓bO, go_sem, seval, Tok.cells, rC, List.map_append, List.length_append, he]
     refine y1 _ ?_
     try clear y1 Y1
     refine AWp_cond rfl (fun hb37 => ?_) (fun hb37 => ?_)
     ·
      have h3 : s.ps.length = 8 := by (have h9 := hb37; simp at h9; omega)
      refine AWp_seqK fun Y1 y1 => ?_
      refine AWp_region ?_
      iterate 4 (refine aops_chunk 1 fun Q0 q0 => ?_; simp only [↓bO, go_sem, seval, Tok.cells, rC, List.map_append, List.length_append, he]; refine q0 _ ?_; clear q0 Q0; simp only [go_sem])
      simp only [↓bO, go_sem, seval, Tok.cells, rC, List.map_append, List.length_append, he]
      refine y1 _ ?_
      try clear y1 Y1
      refine AWp_region ?_
      refine aops_chunk 1 fun Q0 q0 => ?_
      simp only [↓bO, go_sem, seval, Tok.cells, rC, List.map_append, List.length_append, he]
      refine q0 _ ?_
      clear q0 Q0
      simp only [go_sem]
      simp only [↓bO, go_sem, seval, Tok.cells, rC, List.map_append, List.length_append, he]
      refine RCalls.at (k := 0) (fail_c l m s.i 0 true 6) ?_ (.tup .nil) rfl (by first | omega | (simp only; omega)) ?_
      · exact ⟨.ptr rfl, .v _, .v _, trivial⟩
      simp only [putO, Nat.reduceEqDiff, ↓reduceIte]
      rw [if_pos (by simp)]
      try simp only [bS, bA, thenQ, blockQ, noGotoQ]
      refine ⟨⟨s.f, s.ps, s.i, 6⟩, hs.many he hg h1 h2 h3, by (simp only [he, if_true]; rw [if_neg (by decide)]; omega), ?_⟩
      try simp only [maskL, setsL, putsO, putO, mB, List.set_cons_zero, List.set_cons_succ, seval, List.map_append, bL, List.length_append, he]
      exact Weak.mk (by simp only [go_sem, Le.refl, Le.any, Le.slNil, Int.natCast_add, Int.cast_ofNat_Int, Int.natCast_one]) (fun _ _ h => h) rfl rfl
     ·
      have h3 : ¬ s.ps.length = 8 := by (have h9 := hb37; simp at h9; omega)
      have hb1 : (s.ps.length + 1) * 40 ≤ 140737488355328 := by omega
      have hb2 : s.ps.length + 1 ≤ maxLen := by (simp only [maxLen]; omega)
      refine AWp_region ?_
      iterate 3 (refine aops_chunk 1 fun Q0 q0 => ?_; simp only [↓bO, go_sem, seval, Tok.cells, rC, List.map_append, List.length_append, he, hb1, hb2]; refine q0 _ ?_; clear q0 Q0; simp only [go_sem])
      refine aops_chunk 1 fun Q0 q0 => ?_
      simp only [↓bO, go_sem, seval, Tok.cells, rC, List.map_append, List.length_append, he, hb1, hb2]
      refine RCalls.at (k := 0) (ih g (by omega) (s.i + 1) lv (by have := lft_next h2; omega) hlv (by have := lft_next h2; have := lft_le (l := l) hs.2.2.1; omega)) ?_ (Ty.dataAgg _) rfl (by first | omega | (simp only; omega)) ?_
      · exact ⟨.ptr rfl, .v _, trivial⟩
      simp only [putO, Nat.reduceEqDiff, ↓reduceIte]
      try simp only [bS, bA, thenQ, blockQ, noGotoQ]
      refine q0 _ ?_
      clear q0 Q0
      simp only [go_sem]
      refine aops_chunk 1 fun Q0 q0 => ?_
      simp only [↓bO, go_sem, seval, ↓bs1_1, ↓bs1_2, ↓bs1_3, ↓bs1_4, ↓bs1_5, ↓bs1_6, ↓bs1_7, ↓bs1_8, ↓bs1_9, ↓bs1_10, ↓bs1_11, ↓bs1_12, Tok.cells, rC, List.map_append, List.length_append, he, hb1, hb2]
      refine q0 _ ?_
      clear q0 Q0
      simp only [go_sem]
      refine aops_chunk 1 fun Q0 q0 => ?_
      simp only [↓bO, go_sem, seval, Tok.cells, rC, List.map_append, List.length_append, he, hb1, hb2]
      refine q0 _ ?_
      clear q0 Q0
      simp only [go_sem]
      simp only [↓bO, go_sem, seval, Tok.cells, rC, List.map_append, List.length_append, he, hb1, hb2]
      refine ⟨⟨g, s.ps ++ [(rdP l m g none (s.i + 1) lv).1], (rdP l m g none (s.i + 1) lv).2.1, (rdP l m g none (s.i + 1) lv).2.2⟩, hs.next he hg h1 h2 h3, by (simp only [he, if_true]; split <;> omega), ?_⟩
      try simp only [maskL, setsL, putsO, putO, mB, List.set_cons_zero, List.set_cons_succ, seval, List.map_append, bL, List.length_append, he, hb1, hb2]
      exact Weak.mk (by simp only [go_sem, Le.refl, Le.any, Le.slNil, Int.natCast_add, Int.cast_ofNat_Int, Int.natCast_one]) (fun _ _ h => h) rfl rfl
  ·
   have he : ¬ s.e = 0 := by simpa using hb17
   refine AWp_exit ?_
   simp only [thenQ, blockQ, noGotoQ, bA, Nat.reduceEqDiff, ↓reduceIte]
   refine y0 _ ?_
   try clear y0 Y0
   refine AWp_seqK fun Y0 y0 => ?_
   refine AWp_seqK fun Y1 y1 => ?_
   refine AWp_region ?_
   iterate 2 (refine aops_chunk 1 fun Q0 q0 => ?_; simp only [↓bO, go_sem, seval, Tok.cells, rC]; refine q0 _ ?_; clear q0 Q0; simp only [go_sem])
   simp only [↓bO, go_sem, seval, Tok.cells, rC]
   refine y1 _ ?_
   try clear y1 Y1
   refine AWp_cond rfl (fun hb49 => ?_) (fun hb49 => ?_)
   ·
    obtain ⟨t1, hps, htp⟩ := tupP_one (ps := s.ps) (by have h9 := hb49; simp at h9; omega)
    simp only [hps, List.map_cons, List.map_nil]
    refine AWp_seqK fun Y1 y1 => ?_
    refine AWp_region ?_
    iterate 3 (refine aops_chunk 1 fun Q0 q0 => ?_; simp only [↓bO, go_sem, seval, Tok.cells, rC]; refine q0 _ ?_; clear q0 Q0; simp only [go_sem])
    simp only [↓bO, go_sem, seval, Tok.cells, rC]
    refine y1 _ ?_
    try clear y1 Y1
    refine AWp_ret ?_
    try simp only [thenQ, blockQ, noGotoQ, retQ, aRes, tupOf, bS, bA, aLoad, getO, pack, bL, Nat.reduceAdd, Nat.reduceLeDiff, Nat.reduceEqDiff, ↓reduceIte, ti28, tyX, Tok.cells, List.length_map, rC]
    rw [hs.stop he]
    refine ⟨_, _, ⟨rfl, rfl⟩, .data (Ty.dataAgg _), rUnd (by omega) _ _ _ _, ?_, ?_, by omega⟩
    · simp only [htp]; exact Le.refl _
    · exact ⟨2, rfl, rfl⟩
   ·
    have hln : ¬ s.ps.length = 1 := by (have h9 := hb49; simp at h9; omega)
    refine AWp_skip ?_
    try simp only [thenQ, blockQ, noGotoQ]
    refine y0 _ ?_
    try clear y0 Y0
    refine AWp_seqK fun Y0 y0 => ?_
    refine AWp_region ?_
    iterate 2 (refine aops_chunk 1 fun Q0 q0 => ?_; simp only [↓bO, go_sem, seval, Tok.cells, rC]; refine q0 _ ?_; clear q0 Q0; simp only [go_sem])
    simp only [↓bO, go_sem, seval, Tok.cells, rC]
    refine y0 _ ?_
    try clear y0 Y0
    refine AWp_ret ?_
    try simp only [thenQ, blockQ, noGotoQ, retQ, aRes, tupOf, bS, bA, aLoad, getO, pack, bL, Nat.reduceAdd, Nat.reduceLeDiff, Nat.reduceEqDiff, ↓reduceIte, ti28, tyX, Tok.cells, List.length_map, rC]
    rw [hs.stop he]
    refine ⟨_, _, ⟨rfl, rfl⟩, .data (Ty.dataAgg _), rUnd (by omega) _ _ _ _, ?_, ?_, by omega⟩
    · simp only [tupP_more hln]; rw [Ty.cells_eq]; exact Le.agg ⟨.refl _, .refl _, Le.osl _ _ _, trivial⟩
    · exact ⟨2, rfl, rfl⟩
theorem whole_s (l : List Tok) (m : Int) (hl : l.length ≤ 1048576) (f : Nat) (ih : ∀ g, g ≤ f → WholeOk l m g) (i lv : Int) (hi : lft l i < f + 1) (hlv : -1000000 ≤ lv) (hlv2 : lv + lft l i ≤ 1000000) : RCalls 20 [.ptr 0 0, .v (.int .i64 lv)] l m i 0 (.agg (rdP l m (f + 1) none i lv).1.cells) (rdP l m (f + 1) none i lv).2.1 (rdP l m (f + 1) none i lv).2.2 := by
  refine ACalls.clean (C := fun r os' => r = _ ∧ os' = _) ?_
  refine ACalls_intro Tryd.func20 (by kernel_rfl) rfl (by rw [Tryd.ntmps20]; simp) (fun hm => ?_)
  simp only [Tryd.ntmps20, Tryd.results20, List.length_cons, List.length_nil, Nat.reduceAdd, Nat.reduceSub, List.replicate_succ, List.replicate_zero, List.cons_append, List.nil_append]
  have hw0 : IntKind.i64.wrap (lv + 1) = lv + 1 := wrap_in (by omega) (by omega)
  refine AWp_seqK fun Y0 y0 => ?_
  refine AWp_region ?_
  simp only [↓bO, go_sem, seval, Tok.cells, rC]
  refine y0 _ ?_
  try clear y0 Y0
  refine AWp_seqK fun Y0 y0 => ?_
  refine AWp_region ?_
  iterate 7 (refine aops_chunk 1 fun Q0 q0 => ?_; simp only [↓bO, go_sem, seval, Tok.cells, rC]; refine q0 _ ?_; clear q0 Q0; simp only [go_sem])
  simp only [↓bO, go_sem, seval, Tok.cells, rC]
  obtain ⟨e0, hE⟩ : ∃ e0, (if decide (lv > m) = true ∧ (0 : Int) = 0 then (4 : Int) else 0) = e0 := ⟨_, rfl⟩
  have hf := fail_c l m i 0 (decide (lv > m)) 4
  rw [hE] at hf
  refine RCalls.at (k := 0) (hf) ?_ (.tup .nil) rfl (by first | omega | (simp only; omega)) ?_
  · exact ⟨.ptr rfl, .v _, .v _, trivial⟩
  simp only [putO, Nat.reduceEqDiff, ↓reduceIte]
  try simp only [bS, bA, thenQ, blockQ, noGotoQ]
  refine y0 _ ?_
  try clear y0 Y0
  refine AWp_seqK fun Y0 y0 => ?_
  refine AWp_region ?_
  iterate 2 (refine aops_chunk 1 fun Q0 q0 => ?_; simp only [↓bO, go_sem, seval, Tok.cells, rC]; refine q0 _ ?_; clear q0 Q0; simp only [go_sem])
  simp only [↓bO, go_sem, seval, Tok.cells, rC]
  refine y0 _ ?_
  try clear y0 Y0
  refine AWp_joinE (σ := Ty × Int × Int) (mB 58 51) (fun j => []) (fun j => [(2, .cells 28 j.1.cells), (0, .cells 56 (rC l m j.2.1 j.2.2))]) (fun j => ¬ m < lv ∧ bsP l m f i lv = j) ?_ (fun j hj => ?_)
  ·
   refine AWp_block ?_
   refine AWp_weak (Weak.recell (id := 2) (t := 28) [.v (.int .i64 0), .v (.int .i64 0), .sl 3 []] rfl ⟨.refl _, .refl _, Le.slNil 3, trivial⟩) ?_
   simp only [putO, Nat.reduceEqDiff, ↓reduceIte]
   refine AWp_seqK fun Y0 y0 => ?_
   refine AWp_region ?_
   iterate 5 (refine aops_chunk 1 fun Q0 q0 => ?_; simp only [↓bO, go_sem, seval, Tok.cells, rC]; refine q0 _ ?_; clear q0 Q0; simp only [go_sem])
   simp only [↓bO, go_sem, seval, Tok.cells, rC]
   refine y0 _ ?_
   try clear y0 Y0
   refine AWp_cond rfl (fun hb17 => ?_) (fun hb17 => ?_)
   ·
    obtain ⟨hd, rfl⟩ : m < lv ∧ e0 = 4 := (deep_e hE).resolve_right fun h => by simp [h.2] at hb17
    refine AWp_seqK fun Y0 y0 => ?_
    refine AWp_region ?_
    refine aops_chunk 1 fun Q0 q0 => ?_
    simp only [↓bO, go_sem, seval, Tok.cells, rC]
    refine q0 _ ?_
    clear q0 Q0
    simp only [go_sem]
    simp only [↓bO, go_sem, seval, Tok.cells, rC]
    refine y0 _ ?_
    try clear y0 Y0
    refine AWp_ret ?_
    try simp only [thenQ, blockQ, noGotoQ, retQ, aRes, tupOf, bS, bA, aLoad, getO, pack, bL, Nat.reduceAdd, Nat.reduceLeDiff, Nat.reduceEqDiff, ↓reduceIte, ti28, tyX, Tok.cells, List.length_map, rC]
    rw [rdP_none, if_pos hd]
    refine ⟨_, _, ⟨rfl, rfl⟩, .data (Ty.dataAgg _), rUnd (by omega) _ _ _ _, ?_, ?_, by omega⟩
    · first | exact Le.refl _ | (simp only [zTy, Ty.cells_eq, Ty.k, Ty.n, Ty.ps, List.map_cons, List.map_nil]; exact Le.refl _)
    · exact ⟨2, rfl, rfl⟩
   ·
    obtain ⟨hd, rfl⟩ : ¬ m < lv ∧ e0 = 0 := (deep_e hE).resolve_left fun h => by simp [h.2] at hb17
    refine AWp_seqK fun Y0 y0 => ?_
    refine AWp_region ?_
    refine aops_chunk 1 fun Q0 q0 => ?_
    simp only [↓bO, go_sem, seval, Tok.cells, rC, hw0]
    refine q0 _ ?_
    clear q0 Q0
    simp only [go_sem]
    refine aops_chunk 1 fun Q0 q0 => ?_
    simp only [↓bO, go_sem, seval, Tok.cells, rC, hw0]
    refine RCalls.at (k := 0) (sign_c l m i 0 3 bInt hl) ?_ (.v _) rfl (by first | omega | (simp only; omega)) ?_
    · exact ⟨.ptr rfl, .v _, .v _, trivial⟩
    simp only [putO, Nat.reduceEqDiff, ↓reduceIte]
    try simp only [bS, bA, thenQ, blockQ, noGotoQ]
    refine q0 _ ?_
    clear q0 Q0
    simp only [go_sem]
    simp only [↓bO, go_sem, seval, Tok.cells, rC, hw0]
    refine y0 _ ?_
    try clear y0 Y0
    refine AWp_cond rfl (fun hb24 => ?_) (fun hb24 => ?_)
    ·
     have hA : isT l i 3 bInt = true := hb24
     simp only [hA, if_true]
     have hbs : bsP l m f i lv = (.mk 2 0 [], i + 1, 0) := by (unfold bsP; rw [if_pos hA])
     refine AWp_region ?_
     refine aops_chunk 1 fun Q0 q0 => ?_
     simp only [↓bO, go_sem, seval, Tok.cells, rC, hw0]
     refine q0 _ ?_
     clear q0 Q0
     simp only [go_sem]
     simp only [↓bO, go_sem, seval, Tok.cells, rC, hw0]
     try simp only [maskL, setsL, putsO, putO, mB, List.set_cons_zero, List.set_cons_succ, seval]
     refine ⟨(bsP l m f i lv), ⟨hd, rfl⟩, ?_⟩
     rw [hbs]
     try simp only [zTy, Ty.cells_eq (Ty.mk 0 0 []), Ty.cells_eq (Ty.mk 2 0 []), Ty.cells_eq (Ty.mk 3 0 []), Ty.k, Ty.n, Ty.ps, List.map_nil]
     exact Weak.mk (by simp only [go_sem, Le.refl, Le.any]) (fun _ _ h => h) rfl rfl
    ·
     have hA : isT l i 3 bInt = false := hb24
     simp only [hA, Bool.false_eq_true, if_false]
     refine AWp_seqK fun Y0 y0 => ?_
     refine AWp_region ?_
     refine aops_chunk 1 fun Q0 q0 => ?_
     simp only [↓bO, go_sem, seval, Tok.cells, rC, hw0]
     refine q0 _ ?_
     clear q0 Q0
     simp only [go_sem]
     refine aops_chunk 1 fun Q0 q0 => ?_
     simp only [↓bO, go_sem, seval, Tok.cells, rC, hw0]
     refine RCalls.at (k := 0) (sign_c l m i 0 3 bBool hl) ?_ (.v _) rfl (by first | omega | (simp only; omega)) ?_
     · exact ⟨.ptr rfl, .v _, .v _, trivial⟩
     simp only [putO, Nat.reduceEqDiff, ↓reduceIte]
     try simp only [bS, bA, thenQ, blockQ, noGotoQ]
     refine q0 _ ?_
     clear q0 Q0
     simp only [go_sem]
     simp only [↓bO, go_sem, seval, Tok.cells, rC, hw0]
     refine y0 _ ?_
     try clear y0 Y0
     refine AWp_cond rfl (fun hb28 => ?_) (fun hb28 => ?_)
     ·
      have hB : isT l i 3 bBool = true := hb28
      simp only [hB, if_true]
      have hbs : bsP l m f i lv = (.mk 3 0 [], i + 1, 0) := by (unfold bsP; rw [if_neg (by simp [hA]), if_pos hB])
      refine AWp_region ?_
      refine aops_chunk 1 fun Q0 q0 => ?_
      simp only [↓bO, go_sem, seval, Tok.cells, rC, hw0]
      refine q0 _ ?_
      clear q0 Q0
      simp only [go_sem]
      simp only [↓bO, go_sem, seval, Tok.cells, rC, hw0]
      try simp only [maskL, setsL, putsO, putO, mB, List.set_cons_zero, List.set_cons_succ, seval]
      refine ⟨(bsP l m f i lv), ⟨hd, rfl⟩, ?_⟩
      rw [hbs]
      try simp only [zTy, Ty.cells_eq (Ty.mk 0 0 []), Ty.cells_eq (Ty.mk 2 0 []), Ty.cells_eq (Ty.mk 3 0 []), Ty.k, Ty.n, Ty.ps, List.map_nil]
      exact Weak.mk (by simp only [go_sem, Le.refl, Le.any]) (fun _ _ h => h) rfl rfl
     ·
      have hB : isT l i 3 bBool = false := hb28
      simp only [hB, Bool.false_eq_true, if_false]
      refine AWp_seqK fun Y0 y0 => ?_
      refine AWp_region ?_
      refine aops_chunk 1 fun Q0 q0 => ?_
      simp only [↓bO, go_sem, seval, Tok.cells, rC, hw0]
      refine q0 _ ?_
      clear q0 Q0
      simp only [go_sem]
      refine aops_chunk 1 fun Q0 q0 => ?_
      simp only [↓bO, go_sem, seval, Tok.cells, rC, hw0]
      refine RCalls.at (k := 0) (sign_c l m i 0 4 bOpen hl) ?_ (.v _) rfl (by first | omega | (simp only; omega)) ?_
      · exact ⟨.ptr rfl, .v _, .v _, trivial⟩
      simp only [putO, Nat.reduceEqDiff, ↓reduceIte]
      try simp only [bS, bA, thenQ, blockQ, noGotoQ]
      refine q0 _ ?_
      clear q0 Q0
      simp only [go_sem]
      simp only [↓bO, go_sem, seval, Tok.cells, rC, hw0]
      refine y0 _ ?_
      try clear y0 Y0
      refine AWp_cond rfl (fun hb32 => ?_) (fun hb32 => ?_)
      ·
       have hC : isT l i 4 bOpen = true := hb32
       simp only [hC, if_true]
       have hbs : bsP l m f i lv = lsP l m f (i + 1) (lv + 1) := by (unfold bsP; rw [if_neg (by simp [hA]), if_neg (by simp [hB]), if_pos hC])
       have hC2 := lft_next hC
       refine AWp_region ?_
       iterate 5 (refine aops_chunk 1 fun Q0 q0 => ?_; simp only [↓bO, go_sem, seval, Tok.cells, rC, hw0]; refine q0 _ ?_; clear q0 Q0; simp only [go_sem])
       refine aops_chunk 1 fun Q0 q0 => ?_
       simp only [↓bO, go_sem, seval, Tok.cells, rC, hw0]
       refine RCalls.at (k := 0) (list_c l m f hl ih (i + 1) (lv + 1) (by omega) (by omega) (by omega)) ?_ (Ty.dataAgg _) rfl (by first | omega | (simp only; omega)) ?_
       · exact ⟨.ptr rfl, .v _, .mth ⟨.ptr rfl, trivial⟩, trivial⟩
       simp only [putO, Nat.reduceEqDiff, ↓reduceIte]
       try simp only [bS, bA, thenQ, blockQ, noGotoQ]
       refine q0 _ ?_
       clear q0 Q0
       simp only [go_sem]
       simp only [↓bO, go_sem, seval, Tok.cells, rC, hw0]
       try simp only [maskL, setsL, putsO, putO, mB, List.set_cons_zero, List.set_cons_succ, seval]
       refine ⟨(bsP l m f i lv), ⟨hd, rfl⟩, ?_⟩
       rw [hbs]
       try simp only [zTy, Ty.cells_eq (Ty.mk 0 0 []), Ty.cells_eq (Ty.mk 2 0 []), Ty.cells_eq (Ty.mk 3 0 []), Ty.k, Ty.n, Ty.ps, List.map_nil]
       exact Weak.mk (by simp only [go_sem, Le.refl, Le.any]) (fun _ _ h => h) rfl rfl
      ·
       have hC : isT l i 4 bOpen = false := hb32
       simp only [hC, Bool.false_eq_true, if_false]
       have hbs : bsP l m f i lv = (zTy, i, 3) := by (unfold bsP; rw [if_neg (by simp [hA]), if_neg (by simp [hB]), if_neg (by simp [hC])])
       refine AWp_region ?_
       refine aops_chunk 1 fun Q0 q0 => ?_
       simp only [↓bO, go_sem, seval, Tok.cells, rC, hw0]
       refine q0 _ ?_
       clear q0 Q0
       simp only [go_sem]
       simp only [↓bO, go_sem, seval, Tok.cells, rC, hw0]
       refine RCalls.at (k := 0) (fail_c l m i 0 true 3) ?_ (.tup .nil) rfl (by first | omega | (simp only; omega)) ?_
       · exact ⟨.ptr rfl, .v _, .v _, trivial⟩
       simp only [putO, Nat.reduceEqDiff, ↓reduceIte]
       rw [if_pos (by simp)]
       try simp only [bS, bA, thenQ, blockQ, noGotoQ]
       try simp only [maskL, setsL, putsO, putO, mB, List.set_cons_zero, List.set_cons_succ, seval]
       refine ⟨(bsP l m f i lv), ⟨hd, rfl⟩, ?_⟩
       rw [hbs]
       try simp only [zTy, Ty.cells_eq (Ty.mk 0 0 []), Ty.cells_eq (Ty.mk 2 0 []), Ty.cells_eq (Ty.mk 3 0 []), Ty.k, Ty.n, Ty.ps, List.map_nil]
       exact Weak.mk (by simp only [go_sem, Le.refl, Le.any]) (fun _ _ h => h) rfl rfl
  simp only [maskL, setsL, putsO, putO, mB, List.set_cons_zero, List.set_cons_succ, seval]
  obtain ⟨hd, hj⟩ := hj
  have hjm : lft l j.2.1 ≤ lft l i := lft_le (by rw [← hj]; exact bsP_mono _ _ _ _ _)
  refine AWp_seqK fun Y0 y0 => ?_
  refine AWp_seqK fun Y1 y1 => ?_
  refine AWp_region ?_
  iterate 6 (refine aops_chunk 1 fun Q0 q0 => ?_; simp only [↓bO, go_sem, seval, Tok.cells, rC]; refine q0 _ ?_; clear q0 Q0; simp only [go_sem])
  refine aops_case 46 rfl (fun hc46 => ?_) (fun hc46 => ?_)
  ·
   simp only [List.set_cons_zero, List.set_cons_succ]
   have hj0 : j.2.2 = 0 := by simpa using hc46
   simp only [hj0]
   refine aops_chunk 1 fun Q0 q0 => ?_
   simp only [↓bO, go_sem, seval, Tok.cells, rC, hj0]
   refine q0 _ ?_
   clear q0 Q0
   simp only [go_sem]
   refine aops_chunk 1 fun Q0 q0 => ?_
   simp only [↓bO, go_sem, seval, Tok.cells, rC, hj0]
   refine RCalls.at (k := 0) (sign_c l m j.2.1 0 4 bArrow hl) ?_ (.v _) rfl (by first | omega | (simp only; omega)) ?_
   · exact ⟨.ptr rfl, .v _, .v _, trivial⟩
   simp only [putO, Nat.reduceEqDiff, ↓reduceIte]
   try simp only [bS, bA, thenQ, blockQ, noGotoQ]
   refine q0 _ ?_
   clear q0 Q0
   simp only [go_sem]
   simp only [↓bO, go_sem, seval, Tok.cells, rC, hj0]
   refine y1 _ ?_
   try clear y1 Y1
   refine AWp_cond rfl (fun hb49 => ?_) (fun hb49 => ?_)
   ·
    have hD : isT l j.2.1 4 bArrow = true := hb49
    simp only [hD, if_true]
    refine AAny_start [] 8 rfl mixed (trivial) rfl ?_
    dsimp only
    refine AAny_takeK 1 rfl (by kernel_rfl) (by kernel_rfl) (by kernel_rfl) (fun _ _ h => h) fun Q0 q0 => ?_
    simp only [↓bO, go_sem, seval, Tok.cells, rC, hj0, hw0]
    refine q0 _ ?_
    clear q0 Q0
    refine AAny_takeK 2 rfl (by kernel_rfl) (by kernel_rfl) (by kernel_rfl) (fun _ _ h => h) fun Q0 q0 => ?_
    simp only [↓bO, go_sem, seval, Tok.cells, rC, hj0, hw0]
    refine q0 _ ?_
    clear q0 Q0
    refine AAny_takeI 3 rfl rfl (by kernel_rfl) (by kernel_rfl) (by kernel_rfl) (fun _ _ h => h) fun Q0 q0 => ?_
    simp only [↓bO, go_sem, seval, aInt, Tok.cells, rC, hj0, hw0]
    refine q0 _ ?_
    clear q0 Q0
    refine AAny_all2 (i := 0) (j := 4) (by kernel_rfl) ?_ ?_
    ·
     refine aAt_op rfl rfl fun Q0 q0 => ?_
     simp only [↓bO, go_sem, seval, Tok.cells, rC, hj0, hw0]
     refine q0 _ ⟨trivial, ?_⟩
     clear q0 Q0
     refine AAny_all1 (i := 4) (by kernel_rfl) ?_
     ·
      refine aAt_op rfl rfl fun Q0 q0 => ?_
      simp only [↓bO, go_sem, seval, Tok.cells, rC, hj0, hw0]
      refine RCalls.at (k := 0) (ih f (Nat.le_refl f) (j.2.1 + 1) (lv + 1) (by have := lft_next hD; omega) (by omega) (by have := lft_next hD; omega)) ?_ (Ty.dataAgg _) rfl (by first | omega | (simp only; omega)) ?_
      · exact ⟨.ptr rfl, .v _, trivial⟩
      simp only [putO, Nat.reduceEqDiff, ↓reduceIte]
      try simp only [bS, bA]
      refine q0 _ ⟨trivial, ?_⟩
      clear q0 Q0
      refine AAny_all1 (i := 5) (by kernel_rfl) ?_
      ·
       refine aAt_op rfl rfl fun Q0 q0 => ?_
       simp only [↓bO, go_sem, seval, ↓bs2_1, ↓bs2_2, ↓bs2_3, ↓bs2_4, ↓bs2_5, ↓bs2_6, ↓bs2_7, ↓bs2_8, ↓bs2_9, ↓bs2_10, ↓bs2_11, ↓bs2_12, Tok.cells, rC, hj0, hw0]
       refine q0 _ ⟨trivial, ?_⟩
       clear q0 Q0
       refine AAny_all1 (i := 6) (by kernel_rfl) ?_
       ·
        refine aAt_op rfl rfl fun Q0 q0 => ?_
        simp only [↓bO, go_sem, seval, Tok.cells, rC, hj0, hw0]
        refine q0 _ ⟨trivial, ?_⟩
        clear q0 Q0
        refine AAny_all1 (i := 7) (by kernel_rfl) ?_
        ·
         refine aAt_op rfl rfl fun Q0 q0 => ?_
         simp only [↓bO, go_sem, seval, Tok.cells, rC, hj0, hw0]
         refine q0 _ ⟨trivial, ?_⟩
         clear q0 Q0
         refine AAny_done (by kernel_rfl) ?_
         simp only [thenQ, blockQ, noGotoQ]
         refine y0 _ ?_
         try clear y0 Y0
         refine AWp_seqK fun Y0 y0 => ?_
         refine AWp_region ?_
         refine aops_chunk 1 fun Q0 q0 => ?_
         simp only [↓bO, go_sem, seval, Tok.cells, rC, hj0]
         refine q0 _ ?_
         clear q0 Q0
         simp only [go_sem]
         simp only [↓bO, go_sem, seval, Tok.cells, rC, hj0]
         refine y0 _ ?_
         try clear y0 Y0
         refine AWp_ret ?_
         try simp only [thenQ, blockQ, noGotoQ, retQ, aRes, tupOf, bS, bA, aLoad, getO, pack, bL, Nat.reduceAdd, Nat.reduceLeDiff, Nat.reduceEqDiff, ↓reduceIte, ti28, tyX, Tok.cells, List.length_map, rC, hj0]
         rw [rdP_none, if_neg hd, hj]
         rw [arP, if_pos hj0, if_pos hD]
         refine ⟨_, _, ⟨rfl, rfl⟩, .data (Ty.dataAgg _), rUnd (by omega) _ _ _ _, ?_, ?_, by omega⟩
         · first | exact Le.refl _ | (simp only [zTy, Ty.cells_eq, Ty.k, Ty.n, Ty.ps, List.map_cons, List.map_nil]; exact Le.refl _)
         · exact ⟨2, rfl, rfl⟩
    ·
     refine aAt_op rfl rfl fun Q0 q0 => ?_
     simp only [↓bO, go_sem, seval, Tok.cells, rC, hj0, hw0]
     refine RCalls.at (k := 0) (ih f (Nat.le_refl f) (j.2.1 + 1) (lv + 1) (by have := lft_next hD; omega) (by omega) (by have := lft_next hD; omega)) ?_ (Ty.dataAgg _) rfl (by first | omega | (simp only; omega)) ?_
     · exact ⟨.ptr rfl, .v _, trivial⟩
     simp only [putO, Nat.reduceEqDiff, ↓reduceIte]
     try simp only [bS, bA]
     refine q0 _ ⟨trivial, ?_⟩
     clear q0 Q0
     refine AAny_all1 (i := 0) (by kernel_rfl) ?_
     ·
      refine aAt_op rfl rfl fun Q0 q0 => ?_
      simp only [↓bO, go_sem, seval, Tok.cells, rC, hj0, hw0]
      refine q0 _ ⟨trivial, ?_⟩
      clear q0 Q0
      refine AAny_all1 (i := 5) (by kernel_rfl) ?_
      ·
       refine aAt_op rfl rfl fun Q0 q0 => ?_
       simp only [↓bO, go_sem, seval, ↓bs2_1, ↓bs2_2, ↓bs2_3, ↓bs2_4, ↓bs2_5, ↓bs2_6, ↓bs2_7, ↓bs2_8, ↓bs2_9, ↓bs2_10, ↓bs2_11, ↓bs2_12, Tok.cells, rC, hj0, hw0]
       refine q0 _ ⟨trivial, ?_⟩
       clear q0 Q0
       refine AAny_all1 (i := 6) (by kernel_rfl) ?_
       ·
        refine aAt_op rfl rfl fun Q0 q0 => ?_
        simp only [↓bO, go_sem, seval, Tok.cells, rC, hj0, hw0]
        refine q0 _ ⟨trivial, ?_⟩
        clear q0 Q0
        refine AAny_all1 (i := 7) (by kernel_rfl) ?_
        ·
         refine aAt_op rfl rfl fun Q0 q0 => ?_
         simp only [↓bO, go_sem, seval, Tok.cells, rC, hj0, hw0]
         refine q0 _ ⟨trivial, ?_⟩
         clear q0 Q0
         refine AAny_done (by kernel_rfl) ?_
         simp only [thenQ, blockQ, noGotoQ]
         refine y0 _ ?_
         try clear y0 Y0
         refine AWp_seqK fun Y0 y0 => ?_
         refine AWp_region ?_
         refine aops_chunk 1 fun Q0 q0 => ?_
         simp only [↓bO, go_sem, seval, Tok.cells, rC, hj0]
         refine q0 _ ?_
         clear q0 Q0
         simp only [go_sem]
         simp only [↓bO, go_sem, seval, Tok.cells, rC, hj0]
         refine y0 _ ?_
         try clear y0 Y0
         refine AWp_ret ?_
         try simp only [thenQ, blockQ, noGotoQ, retQ, aRes, tupOf, bS, bA, aLoad, getO, pack, bL, Nat.reduceAdd, Nat.reduceLeDiff, Nat.reduceEqDiff, ↓reduceIte, ti28, tyX, Tok.cells, List.length_map, rC, hj0]
         rw [rdP_none, if_neg hd, hj]
         rw [arP, if_pos hj0, if_pos hD]
         refine ⟨_, _, ⟨rfl, rfl⟩, .data (Ty.dataAgg _), rUnd (by omega) _ _ _ _, ?_, ?_, by omega⟩
         · first | exact Le.refl _ | (simp only [zTy, Ty.cells_eq, Ty.k, Ty.n, Ty.ps, List.map_cons, List.map_nil]; exact Le.refl _)
         · exact ⟨2, rfl, rfl⟩
   ·
    have hD : isT l j.2.1 4 bArrow = false := hb49
    simp only [hD, Bool.false_eq_true, if_false]
    refine AWp_skip ?_
    try simp only [thenQ, blockQ, noGotoQ]
    refine y0 _ ?_
    try clear y0 Y0
    refine AWp_seqK fun Y0 y0 => ?_
    refine AWp_region ?_
    refine aops_chunk 1 fun Q0 q0 => ?_
    simp only [↓bO, go_sem, seval, Tok.cells, rC, hj0]
    refine q0 _ ?_
    clear q0 Q0
    simp only [go_sem]
    simp only [↓bO, go_sem, seval, Tok.cells, rC, hj0]
    refine y0 _ ?_
    try clear y0 Y0
    refine AWp_ret ?_
    try simp only [thenQ, blockQ, noGotoQ, retQ, aRes, tupOf, bS, bA, aLoad, getO, pack, bL, Nat.reduceAdd, Nat.reduceLeDiff, Nat.reduceEqDiff, ↓reduceIte, ti28, tyX, Tok.cells, List.length_map, rC, hj0]
    rw [rdP_none, if_neg hd, hj]
    rw [arP, if_pos hj0, if_neg (by simp [hD]), hj0]
    refine ⟨_, _, ⟨rfl, rfl⟩, .data (Ty.dataAgg _), rUnd (by omega) _ _ _ _, ?_, ?_, by omega⟩
    · first | exact Le.refl _ | (simp only [zTy, Ty.cells_eq, Ty.k, Ty.n, Ty.ps, List.map_cons, List.map_nil]; exact Le.refl _)
    · exact ⟨2, rfl, rfl⟩
  ·
   simp only [List.set_cons_zero, List.set_cons_succ]
   have hj0 : ¬ j.2.2 = 0 := by simpa using hc46
   iterate 2 (refine aops_chunk 1 fun Q0 q0 => ?_; simp only [↓bO, go_sem, seval, Tok.cells, rC]; refine q0 _ ?_; clear q0 Q0; simp only [go_sem])
   simp only [↓bO, go_sem, seval, Tok.cells, rC]
   refine y1 _ ?_
   try clear y1 Y1
   refine AWp_cond (b := false) (by first | exact rfl | exact congrArg (fun b => AV.v (.bool b)) hb49) (fun h => (by cases h)) (fun _ => ?_)
   refine AWp_skip ?_
   try simp only [thenQ, blockQ, noGotoQ]
   refine y0 _ ?_
   try clear y0 Y0
   refine AWp_seqK fun Y0 y0 => ?_
   refine AWp_region ?_
   refine aops_chunk 1 fun Q0 q0 => ?_
   simp only [↓bO, go_sem, seval, Tok.cells, rC]
   refine q0 _ ?_
   clear q0 Q0
   simp only [go_sem]
   simp only [↓bO, go_sem, seval, Tok.cells, rC]
   refine y0 _ ?_
   try clear y0 Y0
   refine AWp_ret ?_
   try simp only [thenQ, blockQ, noGotoQ, retQ, aRes, tupOf, bS, bA, aLoad, getO, pack, bL, Nat.reduceAdd, Nat.reduceLeDiff, Nat.reduceEqDiff, ↓reduceIte, ti28, tyX, Tok.cells, List.length_map, rC]
   rw [rdP_none, if_neg hd, hj]
   rw [arP, if_neg hj0]
   refine ⟨_, _, ⟨rfl, rfl⟩, .data (Ty.dataAgg _), rUnd (by omega) _ _ _ _, ?_, ?_, by omega⟩
   · first | exact Le.refl _ | (simp only [zTy, Ty.cells_eq, Ty.k, Ty.n, Ty.ps, List.map_cons, List.map_nil]; exact Le.refl _)
   · exact ⟨2, rfl, rfl⟩
theorem whole_c (l : List Tok) (m : Int) (hl : l.length ≤ 1048576) : ∀ f, WholeOk l m f := by
  intro f
  induction f using Nat.strongRecOn with
  | _ f ih =>
    intro i lv hi hlv hlv2
    match f, ih, hi with
    | 0, _, hi => omega
    | f + 1, ih, hi => exact whole_s l m hl f (fun g hg => ih g (by omega)) i lv hi hlv hlv2
theorem zTy_le : Le (.agg [.v (.int .i64 0), .v (.int .i64 0), .v (.slice none 0 0)]) (.agg zTy.cells) := by
  rw [zTy, Ty.cells_eq]; exact Le.agg ⟨.refl _, .refl _, Le.slNil 3, trivial⟩
abbrev rdF (l : List Tok) (m i lv : Int) : Ty × Int × Int := rd l m (l.length + 1) none i lv
theorem rdF_lt (l : List Tok) (i : Int) : lft l i < l.length + 1 := by have := lft_len l i; omega
theorem rdP_eq {l : List Tok} {m : Int} {f : Nat} {i lv : Int} (h : (rdP l m f none i lv).2.2 = 0) : rdP l m f none i lv = rd l m f none i lv :=
  (rdP_rd l m f none i lv (fun ps h => by cases h)).2 (by rw [← rdP_pos]; exact h)
def gr4 (l : List Tok) : Bool := ((l.take 130).any fun t => decide (60 < t.s.size)) || decide (120 < l.length)
theorem Ty.sameL_refl : ∀ ps : List Ty, (∀ p ∈ ps, p.same p = true) → Ty.sameL ps ps = true := fun ps h => by
  induction ps with
  | nil => rfl
  | cons p ps ih => rw [Ty.sameL, h p (by simp), ih fun q hq => h q (by simp [hq])]; rfl
theorem Ty.same_refl : ∀ t : Ty, t.same t = true := by
  refine Ty.ind fun t ih => ?_
  cases t with
  | mk k n ps => rw [Ty.same, Ty.sameL_refl ps ih]; simp
theorem Read_pure (l : List Tok) (m i lv : Int) (hl : l.length ≤ 100000) (hlv : -1000000 ≤ lv) (hlv2 : lv ≤ 800000) : APure Tryd.prog 9 [.sl 4 (l.map Tok.cells), .v (.int .i64 i), .v (.int .i64 lv), .v (.int .i64 m)] (.tup [.agg (rdF l m i lv).1.cells, .v (.int .i64 (rdF l m i lv).2.1), .v (.int .i64 (rdF l m i lv).2.2)]) := by
  refine APure.mkL (.cons (Tok.dataSl l) (.cons (.v _) (.cons (.v _) (.cons (.v _) .nil)))) (.tup (.cons (Ty.dataAgg _) (.cons (.v _) (.cons (.v _) .nil)))) ?_
  refine ACalls_intro Tryd.func9 (by kernel_rfl) rfl (by rw [Tryd.ntmps9]; simp) (fun hm => ?_)
  simp only [Tryd.ntmps9, Tryd.results9, List.length_cons, List.length_nil, Nat.reduceAdd, Nat.reduceSub, List.replicate_succ, List.replicate_zero, List.cons_append, List.nil_append]
  refine AWp_seqK fun Y0 y0 => ?_
  refine AWp_region ?_
  iterate 2 (refine aops_chunk 1 fun Q0 q0 => ?_; simp only [↓bO, go_sem, seval, Tok.cells, rC]; refine q0 _ ?_; clear q0 Q0; simp only [go_sem])
  simp only [↓bO, go_sem, seval, Tok.cells, rC]
  refine y0 _ ?_
  try clear y0 Y0
  refine AWp_seqK fun Y0 y0 => ?_
  refine AWp_region ?_
  iterate 5 (refine aops_chunk 1 fun Q0 q0 => ?_; simp only [↓bO, go_sem, seval, Tok.cells, rC]; refine q0 _ ?_; clear q0 Q0; simp only [go_sem])
  simp only [↓bO, go_sem, seval, Tok.cells, rC]
  refine y0 _ ?_
  try clear y0 Y0
  refine AWp_seqK fun Y0 y0 => ?_
  refine AWp_region ?_
  iterate 2 (refine aops_chunk 1 fun Q0 q0 => ?_; simp only [↓bO, go_sem, seval, Tok.cells, rC]; refine q0 _ ?_; clear q0 Q0; simp only [go_sem])
  refine aops_chunk 1 fun Q0 q0 => ?_
  simp only [↓bO, go_sem, seval, Tok.cells, rC]
  refine RCalls.at (k := 1) (whole_c l m (by omega) (l.length + 1) i lv (rdF_lt l i) hlv (by have := lft_len l i; omega)) ?_ (Ty.dataAgg _) rfl (by first | omega | (simp only; omega)) ?_
  · exact ⟨.ptr rfl, .v _, trivial⟩
  simp only [putO, Nat.reduceEqDiff, ↓reduceIte]
  try simp only [bS, bA, thenQ, blockQ, noGotoQ]
  refine q0 _ ?_
  clear q0 Q0
  simp only [go_sem]
  refine aops_chunk 1 fun Q0 q0 => ?_
  simp only [↓bO, go_sem, seval, Tok.cells, rC]
  refine q0 _ ?_
  clear q0 Q0
  simp only [go_sem]
  simp only [↓bO, go_sem, seval, Tok.cells, rC]
  refine y0 _ ?_
  try clear y0 Y0
  refine AWp_seqK fun Y0 y0 => ?_
  refine AWp_seqK fun Y1 y1 => ?_
  refine AWp_region ?_
  iterate 4 (refine aops_chunk 1 fun Q0 q0 => ?_; simp only [↓bO, go_sem, seval, Tok.cells, rC]; refine q0 _ ?_; clear q0 Q0; simp only [go_sem])
  simp only [↓bO, go_sem, seval, Tok.cells, rC]
  refine y1 _ ?_
  try clear y1 Y1
  refine AWp_cond rfl (fun hb25 => ?_) (fun hb25 => ?_)
  ·
   have he : ¬ (rdP l m (l.length + 1) none i lv).2.2 = 0 := by simpa using hb25
   refine AWp_seqK fun Y1 y1 => ?_
   refine AAny_start [(1, 1, [.v (.int .i64 (rdP l m (l.length + 1) none i lv).2.1)]), (1, 3, [.v (.int .i64 (rdP l m (l.length + 1) none i lv).2.2)])] 12 rfl mixed (⟨⟨_, _, rfl, by simp, rfl, trivial, trivial⟩, ⟨⟨_, _, rfl, by simp, rfl, trivial, trivial⟩, trivial⟩⟩) rfl ?_
   dsimp only
   refine AAny_takeK 1 rfl (by kernel_rfl) (by kernel_rfl) (by kernel_rfl) (fun _ _ h => h) fun Q0 q0 => ?_
   simp only [↓bO, go_sem, seval, Tok.cells, rC]
   refine q0 _ ?_
   clear q0 Q0
   refine AAny_takeK 2 rfl (by kernel_rfl) (by kernel_rfl) (by kernel_rfl) (fun _ _ h => h) fun Q0 q0 => ?_
   simp only [↓bO, go_sem, seval, Tok.cells, rC]
   refine q0 _ ?_
   clear q0 Q0
   refine AAny_takeK 3 rfl (by kernel_rfl) (by kernel_rfl) (by kernel_rfl) (fun _ _ h => h) fun Q0 q0 => ?_
   simp only [↓bO, go_sem, seval, Tok.cells, rC]
   refine q0 _ ?_
   clear q0 Q0
   refine AAny_loadK 4 0 rfl rfl (by kernel_rfl) (by kernel_rfl) (by kernel_rfl) (fun _ _ h => h) fun Q0 q0 => ?_
   simp only [↓bO, go_sem, seval, Tok.cells, rC]
   refine q0 _ ?_
   clear q0 Q0
   refine AAny_takeK 5 rfl (by kernel_rfl) (by kernel_rfl) (by kernel_rfl) (fun _ _ h => h) fun Q0 q0 => ?_
   simp only [↓bO, go_sem, seval, Tok.cells, rC]
   refine q0 _ ?_
   clear q0 Q0
   refine AAny_takeK 6 rfl (by kernel_rfl) (by kernel_rfl) (by kernel_rfl) (fun _ _ h => h) fun Q0 q0 => ?_
   simp only [↓bO, go_sem, seval, Tok.cells, rC]
   refine q0 _ ?_
   clear q0 Q0
   refine AAny_takeK 7 rfl (by kernel_rfl) (by kernel_rfl) (by kernel_rfl) (fun _ _ h => h) fun Q0 q0 => ?_
   simp only [↓bO, go_sem, seval, Tok.cells, rC]
   refine q0 _ ?_
   clear q0 Q0
   refine AAny_loadK 8 1 rfl rfl (by kernel_rfl) (by kernel_rfl) (by kernel_rfl) (fun _ _ h => h) fun Q0 q0 => ?_
   simp only [↓bO, go_sem, seval, Tok.cells, rC]
   refine q0 _ ?_
   clear q0 Q0
   refine AAny_all1 (i := 0) (by kernel_rfl) ?_
   ·
    refine aAt_op rfl rfl fun Q0 q0 => ?_
    simp only [↓bO, go_sem, seval, Tok.cells, rC]
    refine q0 _ ⟨⟨⟨_, _, rfl, by simp, rfl, trivial, trivial⟩, ⟨⟨_, _, rfl, by simp, rfl, trivial, trivial⟩, trivial⟩⟩, ?_⟩
    clear q0 Q0
    refine AAny_all1 (i := 9) (by kernel_rfl) ?_
    ·
     refine aAt_op rfl rfl fun Q0 q0 => ?_
     simp only [↓bO, go_sem, seval, Tok.cells, rC]
     refine q0 _ ⟨⟨⟨_, _, rfl, by simp, rfl, trivial, trivial⟩, ⟨⟨_, _, rfl, by simp, rfl, trivial, trivial⟩, trivial⟩⟩, ?_⟩
     clear q0 Q0
     refine AAny_takeK 10 rfl (by kernel_rfl) (by kernel_rfl) (by kernel_rfl) (fun _ _ h => h) fun Q0 q0 => ?_
     simp only [↓bO, go_sem, seval, Tok.cells, rC]
     refine q0 _ ?_
     clear q0 Q0
     refine AAny_takeK 11 rfl (by kernel_rfl) (by kernel_rfl) (by kernel_rfl) (fun _ _ h => h) fun Q0 q0 => ?_
     simp only [↓bO, go_sem, seval, Tok.cells, rC]
     refine q0 _ ?_
     clear q0 Q0
     refine AAny_done (by kernel_rfl) ?_
     simp only [thenQ, blockQ, noGotoQ]
     refine y1 _ ?_
     try clear y1 Y1
     refine AWp_ret ?_
     try simp only [thenQ, blockQ, noGotoQ, retQ, aRes, tupOf, bS, bA, aLoad, getO, pack, bL, Nat.reduceAdd, Nat.reduceLeDiff, Nat.reduceEqDiff, ↓reduceIte, ti28, tyX, Tok.cells, List.length_map, rC]
     have hz := rd_err l m (l.length + 1) none i lv (by rw [← rdP_pos]; exact he)
     have hp := rdP_pos l m (l.length + 1) i lv
     simp only [rdF, hz, ← hp]
     exact Le.tup ⟨zTy_le, .refl _, .refl _, trivial⟩
  ·
   have he : (rdP l m (l.length + 1) none i lv).2.2 = 0 := by simpa using hb25
   refine AWp_skip ?_
   try simp only [thenQ, blockQ, noGotoQ]
   refine y0 _ ?_
   try clear y0 Y0
   refine AWp_seqK fun Y0 y0 => ?_
   refine AAny_start [(1, 1, [.v (.int .i64 (rdP l m (l.length + 1) none i lv).2.1)])] 8 rfl mixed (⟨⟨_, _, rfl, by simp, rfl, trivial, trivial⟩, trivial⟩) rfl ?_
   dsimp only
   refine AAny_takeK 1 rfl (by kernel_rfl) (by kernel_rfl) (by kernel_rfl) (fun _ _ h => h) fun Q0 q0 => ?_
   simp only [↓bO, go_sem, seval, Tok.cells, rC]
   refine q0 _ ?_
   clear q0 Q0
   refine AAny_takeK 2 rfl (by kernel_rfl) (by kernel_rfl) (by kernel_rfl) (fun _ _ h => h) fun Q0 q0 => ?_
   simp only [↓bO, go_sem, seval, Tok.cells, rC]
   refine q0 _ ?_
   clear q0 Q0
   refine AAny_takeK 3 rfl (by kernel_rfl) (by kernel_rfl) (by kernel_rfl) (fun _ _ h => h) fun Q0 q0 => ?_
   simp only [↓bO, go_sem, seval, Tok.cells, rC]
   refine q0 _ ?_
   clear q0 Q0
   refine AAny_loadK 4 0 rfl rfl (by kernel_rfl) (by kernel_rfl) (by kernel_rfl) (fun _ _ h => h) fun Q0 q0 => ?_
   simp only [↓bO, go_sem, seval, Tok.cells, rC]
   refine q0 _ ?_
   clear q0 Q0
   refine AAny_all1 (i := 0) (by kernel_rfl) ?_
   ·
    refine aAt_op rfl rfl fun Q0 q0 => ?_
    simp only [↓bO, go_sem, seval, Tok.cells, rC]
    refine q0 _ ⟨⟨⟨_, _, rfl, by simp, rfl, trivial, trivial⟩, trivial⟩, ?_⟩
    clear q0 Q0
    refine AAny_all1 (i := 5) (by kernel_rfl) ?_
    ·
     refine aAt_op rfl rfl fun Q0 q0 => ?_
     simp only [↓bO, go_sem, seval, Tok.cells, rC]
     refine q0 _ ⟨⟨⟨_, _, rfl, by simp, rfl, trivial, trivial⟩, trivial⟩, ?_⟩
     clear q0 Q0
     refine AAny_takeK 6 rfl (by kernel_rfl) (by kernel_rfl) (by kernel_rfl) (fun _ _ h => h) fun Q0 q0 => ?_
     simp only [↓bO, go_sem, seval, Tok.cells, rC]
     refine q0 _ ?_
     clear q0 Q0
     refine AAny_takeK 7 rfl (by kernel_rfl) (by kernel_rfl) (by kernel_rfl) (fun _ _ h => h) fun Q0 q0 => ?_
     simp only [↓bO, go_sem, seval, Tok.cells, rC]
     refine q0 _ ?_
     clear q0 Q0
     refine AAny_done (by kernel_rfl) ?_
     simp only [thenQ, blockQ, noGotoQ]
     refine y0 _ ?_
     try clear y0 Y0
     refine AWp_ret ?_
     try simp only [thenQ, blockQ, noGotoQ, retQ, aRes, tupOf, bS, bA, aLoad, getO, pack, bL, Nat.reduceAdd, Nat.reduceLeDiff, Nat.reduceEqDiff, ↓reduceIte, ti28, tyX, Tok.cells, List.length_map, rC]
     have hp := rdP_eq he
     simp only [rdF, ← hp, he]
     exact Le.refl _
theorem Great4_pure (l : List Tok) : APure Tryd.prog 7 [.sl 4 (l.map Tok.cells)] (.v (.bool (gr4 l))) := by
  refine APure.mkL (.cons (Tok.dataSl l) .nil) (.v _) ?_
  refine ACalls_intro Tryd.func7 (by kernel_rfl) rfl (by rw [Tryd.ntmps7]; simp) (fun hm => ?_)
  simp only [Tryd.ntmps7, Tryd.results7, List.length_cons, List.length_nil, Nat.reduceAdd, Nat.reduceSub, List.replicate_succ, List.replicate_zero, List.cons_append, List.nil_append]
  refine AWp_seqK fun Y0 y0 => ?_
  refine AWp_region ?_
  simp only [↓bO, go_sem, seval, Tok.cells]
  refine y0 _ ?_
  try clear y0 Y0
  refine AWp_seqK fun Y0 y0 => ?_
  refine AWp_seqK fun Y1 y1 => ?_
  refine AWp_region ?_
  simp only [↓bO, go_sem, seval, Tok.cells]
  refine y1 _ ?_
  try clear y1 Y1
  refine AWp_block ?_
  refine AWp_loopM (σ := Nat) (mB 24 9) (fun s => s ≤ l.length ∧ s ≤ 130 ∧ ∀ (i : Nat) (t : Tok), i < s → l[i]? = some t → ¬ 60 < t.s.size) (fun s => [(3, .v (.int .i64 (s : Int)))]) (fun s => []) (fun s => 131 - s) 0 (⟨by omega, by omega, fun i t hi => by omega⟩) ?_ (fun s hs => ?_)
  ·
   simp only [maskL, setsL, putsO, putO, mB, List.set_cons_zero, List.set_cons_succ, seval]
   exact Weak.mk (by simp only [go_sem, Le.refl, Le.any, Le.slNil, Int.natCast_add, Int.cast_ofNat_Int, Int.natCast_one]) (fun _ _ h => h) rfl rfl
  simp only [maskL, setsL, putsO, putO, mB, List.set_cons_zero, List.set_cons_succ, seval]
  have hw : IntKind.i64.wrap ((s : Int) + 1) = (s : Int) + 1 := wrap_in (by omega) (by omega)
  refine AWp_seqK fun Y1 y1 => ?_
  refine AWp_seqK fun Y2 y2 => ?_
  refine AWp_region ?_
  iterate 5 (refine aops_chunk 1 fun Q0 q0 => ?_; simp only [↓bO, go_sem, seval, Tok.cells, hw, Int.natCast_add]; refine q0 _ ?_; clear q0 Q0; simp only [go_sem])
  refine aops_case 8 rfl (fun hc8 => ?_) (fun hc8 => ?_)
  ·
   simp only [List.set_cons_zero, List.set_cons_succ]
   have hk : s < l.length := by simpa using hc8
   obtain ⟨t, ht⟩ : ∃ t, l[s]? = some t := ⟨_, List.getElem?_eq_getElem hk⟩
   iterate 2 (refine aops_chunk 1 fun Q0 q0 => ?_; simp only [↓bO, go_sem, seval, Tok.cells, hw, Int.natCast_add, hk, gM ht]; refine q0 _ ?_; clear q0 Q0; simp only [go_sem])
   simp only [↓bO, go_sem, seval, Tok.cells, hw, Int.natCast_add, hk, gM ht]
   refine y2 _ ?_
   try clear y2 Y2
   refine AWp_cond rfl (fun hb11 => ?_) (fun hb11 => ?_)
   ·
    have hk3 : s < 130 := by (have h9 := hb11; simp at h9; omega)
    refine AWp_skip ?_
    try simp only [thenQ, blockQ, noGotoQ]
    refine y1 _ ?_
    try clear y1 Y1
    refine AWp_seqK fun Y1 y1 => ?_
    refine AWp_block ?_
    refine AWp_seqK fun Y2 y2 => ?_
    refine AWp_region ?_
    iterate 6 (refine aops_chunk 1 fun Q0 q0 => ?_; simp only [↓bO, go_sem, seval, Tok.cells, hw, Int.natCast_add, hk, gM ht]; refine q0 _ ?_; clear q0 Q0; simp only [go_sem])
    simp only [↓bO, go_sem, seval, Tok.cells, hw, Int.natCast_add, hk, gM ht]
    refine y2 _ ?_
    try clear y2 Y2
    refine AWp_cond rfl (fun hb20 => ?_) (fun hb20 => ?_)
    ·
     have hbg : 60 < t.s.size := by (have h9 := hb20; simp at h9; omega)
     refine AWp_seqK fun Y2 y2 => ?_
     refine AWp_region ?_
     simp only [↓bO, go_sem, seval, Tok.cells, hw, Int.natCast_add, hk, gM ht]
     refine y2 _ ?_
     try clear y2 Y2
     refine AWp_ret ?_
     try simp only [thenQ, blockQ, noGotoQ, retQ, aRes, tupOf, bS, bA]
     refine Le.of_eq (congrArg (fun b => AV.v (.bool b)) ?_)
     have h9 : ((l.take 130).any fun t => decide (60 < t.s.size)) = true := List.any_eq_true.2 ⟨t, List.mem_of_getElem? (i := s) (by rw [List.getElem?_take, if_pos hk3]; exact ht), by simpa using hbg⟩
     unfold gr4; rw [h9]; rfl
    ·
     have hsm : ¬ 60 < t.s.size := by (have h9 := hb20; simp at h9; omega)
     refine AWp_skip ?_
     try simp only [thenQ, blockQ, noGotoQ]
     refine y1 _ ?_
     try clear y1 Y1
     refine AWp_region ?_
     iterate 2 (refine aops_chunk 1 fun Q0 q0 => ?_; simp only [↓bO, go_sem, seval, Tok.cells, hw, Int.natCast_add, hk, gM ht]; refine q0 _ ?_; clear q0 Q0; simp only [go_sem])
     simp only [↓bO, go_sem, seval, Tok.cells, hw, Int.natCast_add, hk, gM ht]
     refine ⟨(s + 1), ⟨by omega, by omega, fun i t' hi h1 => (by rcases Nat.lt_or_ge i s with h3 | h3 <;> first | exact hs.2.2 i t' h3 h1 | (obtain rfl : i = s := (by omega); rw [ht] at h1; cases h1; exact hsm))⟩, (by omega), ?_⟩
     simp only [maskL, setsL, putsO, putO, mB, List.set_cons_zero, List.set_cons_succ, seval, hw, Int.natCast_add, Int.natCast_one, hk, gM ht]
     exact Weak.mk (by simp only [go_sem, Le.refl, Le.any, Le.slNil, Int.natCast_add, Int.cast_ofNat_Int, Int.natCast_one]) (fun _ _ h => h) rfl rfl
   ·
    have hk3 : ¬ s < 130 := by (have h9 := hb11; simp at h9; omega)
    refine AWp_exit ?_
    simp only [thenQ, blockQ, noGotoQ, bA, Nat.reduceEqDiff, ↓reduceIte]
    refine y0 _ ?_
    try clear y0 Y0
    refine AWp_seqK fun Y0 y0 => ?_
    refine AWp_region ?_
    iterate 3 (refine aops_chunk 1 fun Q0 q0 => ?_; simp only [↓bO, go_sem, seval, Tok.cells, hk, gM ht]; refine q0 _ ?_; clear q0 Q0; simp only [go_sem])
    simp only [↓bO, go_sem, seval, Tok.cells, hk, gM ht]
    refine y0 _ ?_
    try clear y0 Y0
    refine AWp_ret ?_
    try simp only [thenQ, blockQ, noGotoQ, retQ, aRes, tupOf, bS, bA]
    refine Le.of_eq (congrArg (fun b => AV.v (.bool b)) ?_)
    have h9 : ((l.take 130).any fun t => decide (60 < t.s.size)) = false := by
     rw [← Bool.not_eq_true, List.any_eq_true]
     rintro ⟨t, htm, hb⟩
     obtain ⟨i, hi⟩ := List.mem_iff_getElem?.1 htm
     rw [List.getElem?_take] at hi
     split at hi
     · exact hs.2.2 i t (by have := (List.getElem?_eq_some_iff.1 hi).1; omega) hi (by simpa using hb)
     · cases hi
    unfold gr4; rw [h9, Bool.false_or]
    rw [Bool.eq_iff_iff]; simp; try omega
  ·
   simp only [List.set_cons_zero, List.set_cons_succ]
   have hk : ¬ s < l.length := by simpa using hc8
   iterate 2 (refine aops_chunk 1 fun Q0 q0 => ?_; simp only [↓bO, go_sem, seval, Tok.cells]; refine q0 _ ?_; clear q0 Q0; simp only [go_sem])
   simp only [↓bO, go_sem, seval, Tok.cells]
   refine y2 _ ?_
   try clear y2 Y2
   refine AWp_cond (b := false) (by first | exact rfl | exact congrArg (fun b => AV.v (.bool b)) hb11) (fun h => (by cases h)) (fun _ => ?_)
   refine AWp_exit ?_
   simp only [thenQ, blockQ, noGotoQ, bA, Nat.reduceEqDiff, ↓reduceIte]
   refine y0 _ ?_
   try clear y0 Y0
   refine AWp_seqK fun Y0 y0 => ?_
   refine AWp_region ?_
   iterate 3 (refine aops_chunk 1 fun Q0 q0 => ?_; simp only [↓bO, go_sem, seval, Tok.cells]; refine q0 _ ?_; clear q0 Q0; simp only [go_sem])
   simp only [↓bO, go_sem, seval, Tok.cells]
   refine y0 _ ?_
   try clear y0 Y0
   refine AWp_ret ?_
   try simp only [thenQ, blockQ, noGotoQ, retQ, aRes, tupOf, bS, bA]
   refine Le.of_eq (congrArg (fun b => AV.v (.bool b)) ?_)
   have h9 : ((l.take 130).any fun t => decide (60 < t.s.size)) = false := by
    rw [← Bool.not_eq_true, List.any_eq_true]
    rintro ⟨t, htm, hb⟩
    obtain ⟨i, hi⟩ := List.mem_iff_getElem?.1 htm
    rw [List.getElem?_take] at hi
    split at hi
    · exact hs.2.2 i t (by have := (List.getElem?_eq_some_iff.1 hi).1; omega) hi (by simpa using hb)
    · cases hi
   unfold gr4; rw [h9, Bool.false_or]
   rw [Bool.eq_iff_iff]; simp; try omega
theorem gr4_len {l : List Tok} (h : gr4 l = false) : l.length ≤ 120 := by
  unfold gr4 at h
  simp only [Bool.or_eq_false_iff, decide_eq_false_iff_not] at h
  omega
theorem aw4_read2 : rdF aw4T 9 0 1 = (aw4Y, 7, 0) := by rfl
theorem aw4_read_pure : APure Tryd.prog 9 [.sl 4 (aw4T.map Tok.cells), .v (.int .i64 0), .v (.int .i64 1), .v (.int .i64 9)] (.tup [.agg aw4Y.cells, .v (.int .i64 7), .v (.int .i64 0)]) := by
  have h := Read_pure aw4T 9 0 1 (by decide) (by decide) (by decide)
  rw [aw4_read2] at h; exact h
theorem aw4_print2 : APure Tryd.prog 16 [.agg aw4Y.cells] (.v (.string aw4S)) := by rw [aw4_cells]; exact aw4_print
theorem awake4_pure : APure Tryd.prog 8 [] (.v (.bool true)) := by
  refine APure.mkL (.nil) (.v _) ?_
  refine ACalls_intro Tryd.func8 (by kernel_rfl) rfl (by rw [Tryd.ntmps8]; simp) (fun hm => ?_)
  simp only [Tryd.ntmps8, Tryd.results8, List.length_cons, List.length_nil, Nat.reduceAdd, Nat.reduceSub, List.replicate_succ, List.replicate_zero, List.cons_append, List.nil_append]
  refine AWp_seqK fun Y0 y0 => ?_
  refine AWp_region ?_
  simp only [↓bO, go_sem, seval, Tok.cells]
  refine y0 _ ?_
  try clear y0 Y0
  refine AWp_seqK fun Y0 y0 => ?_
  refine AWp_region ?_
  refine aops_chunk 1 fun Q0 q0 => ?_
  simp only [↓bO, go_sem, seval, Tok.cells]
  refine APure.call (aw4_words) ?_
  try simp only [bS, bA, thenQ, blockQ, noGotoQ]
  iterate 6 (refine q0 _ ?_; clear q0 Q0; simp only [go_sem]; refine aops_chunk 1 fun Q0 q0 => ?_; simp only [↓bO, go_sem, seval, Tok.cells])
  refine q0 _ ?_
  clear q0 Q0
  simp only [go_sem]
  simp only [↓bO, go_sem, seval, Tok.cells]
  refine y0 _ ?_
  try clear y0 Y0
  refine AWp_seqK fun Y0 y0 => ?_
  refine AWp_region ?_
  refine aops_chunk 1 fun Q0 q0 => ?_
  simp only [↓bO, go_sem, seval, Tok.cells]
  refine q0 _ ?_
  clear q0 Q0
  simp only [go_sem]
  refine aops_chunk 1 fun Q0 q0 => ?_
  simp only [↓bO, go_sem, seval, Tok.cells]
  refine APure.call (aw4_read_pure) ?_
  try simp only [bS, bA, thenQ, blockQ, noGotoQ]
  iterate 7 (refine q0 _ ?_; clear q0 Q0; simp only [go_sem]; refine aops_chunk 1 fun Q0 q0 => ?_; simp only [↓bO, go_sem, seval, Tok.cells])
  refine q0 _ ?_
  clear q0 Q0
  simp only [go_sem]
  simp only [↓bO, go_sem, seval, Tok.cells]
  refine y0 _ ?_
  try clear y0 Y0
  refine AWp_seqK fun Y0 y0 => ?_
  refine AWp_region ?_
  iterate 3 (refine aops_chunk 1 fun Q0 q0 => ?_; simp only [↓bO, go_sem, seval, Tok.cells]; refine q0 _ ?_; clear q0 Q0; simp only [go_sem])
  refine aops_case 20 rfl (fun hc20 => ?_) (fun hc20 => ?_)
  ·
   simp only [List.set_cons_zero, List.set_cons_succ]
   iterate 4 (refine aops_chunk 1 fun Q0 q0 => ?_; simp only [↓bO, go_sem, seval, Tok.cells]; refine q0 _ ?_; clear q0 Q0; simp only [go_sem])
   refine aops_case 24 rfl (fun hc24 => ?_) (fun hc24 => ?_)
   ·
    simp only [List.set_cons_zero, List.set_cons_succ]
    iterate 4 (refine aops_chunk 1 fun Q0 q0 => ?_; simp only [↓bO, go_sem, seval, Tok.cells]; refine q0 _ ?_; clear q0 Q0; simp only [go_sem])
    refine aops_case 28 rfl (fun hc28 => ?_) (fun hc28 => ?_)
    ·
     simp only [List.set_cons_zero, List.set_cons_succ]
     refine aops_chunk 1 fun Q0 q0 => ?_
     simp only [↓bO, go_sem, seval, Tok.cells]
     refine q0 _ ?_
     clear q0 Q0
     simp only [go_sem]
     refine aops_chunk 1 fun Q0 q0 => ?_
     simp only [↓bO, go_sem, seval, Tok.cells]
     refine APure.call (aw4_print2) ?_
     try simp only [bS, bA, thenQ, blockQ, noGotoQ]
     iterate 2 (refine q0 _ ?_; clear q0 Q0; simp only [go_sem]; refine aops_chunk 1 fun Q0 q0 => ?_; simp only [↓bO, go_sem, seval, Tok.cells])
     refine q0 _ ?_
     clear q0 Q0
     simp only [go_sem]
     simp only [↓bO, go_sem, seval, Tok.cells]
     refine y0 _ ?_
     try clear y0 Y0
     refine AWp_ret ?_
     try simp only [thenQ, blockQ, noGotoQ, retQ, aRes, tupOf, bS, bA]
     refine Le.of_eq (congrArg (fun b => AV.v (.bool b)) ?_)
     first | rfl | decide | kernel_rfl
    ·
     simp only [List.set_cons_zero, List.set_cons_succ]
     exact absurd hc28 (by decide)
   ·
    simp only [List.set_cons_zero, List.set_cons_succ]
    exact absurd hc24 (by decide)
  ·
   simp only [List.set_cons_zero, List.set_cons_succ]
   exact absurd hc20 (by decide)
theorem lv_more (l : List Tok) (m : Int) : More (rdF l m 0 1) (rdF l (m + 1) 0 1) := rd_more l m (l.length + 1) none 0 1
theorem SignatureLevels_pure (l : List Tok) (n : Nat) (hn : n < 256) : APure Tryd.prog 4 [.sl 4 (l.map Tok.cells), .v (.int .u8 n)] (.v (.bool true)) := by
  refine APure.mkL (.cons (Tok.dataSl l) (.cons (.v _) .nil)) (.v _) ?_
  refine ACalls_intro Tryd.func4 (by kernel_rfl) rfl (by rw [Tryd.ntmps4]; simp) (fun hm => ?_)
  simp only [Tryd.ntmps4, Tryd.results4, List.length_cons, List.length_nil, Nat.reduceAdd, Nat.reduceSub, List.replicate_succ, List.replicate_zero, List.cons_append, List.nil_append]
  have hw5 : IntKind.i64.wrap (n : Int) = (n : Int) := wrap_in (by omega) (by omega)
  have hw6 : IntKind.i64.wrap ((n : Int) + 1) = (n : Int) + 1 := wrap_in (by omega) (by omega)
  have hmo := lv_more l n
  refine AWp_seqK fun Y0 y0 => ?_
  refine AWp_region ?_
  simp only [↓bO, go_sem, seval, Tok.cells, hw5, hw6]
  refine y0 _ ?_
  try clear y0 Y0
  refine AWp_seqK fun Y0 y0 => ?_
  refine AWp_seqK fun Y1 y1 => ?_
  refine AWp_region ?_
  refine aops_chunk 1 fun Q0 q0 => ?_
  simp only [↓bO, go_sem, seval, Tok.cells, hw5, hw6]
  refine q0 _ ?_
  clear q0 Q0
  simp only [go_sem]
  simp only [↓bO, go_sem, seval, Tok.cells, hw5, hw6]
  refine APure.call (Great4_pure l) ?_
  try simp only [bS, bA, thenQ, blockQ, noGotoQ]
  refine y1 _ ?_
  try clear y1 Y1
  refine AWp_cond rfl (fun hb12 => ?_) (fun hb12 => ?_)
  ·
   have hg : gr4 l = true := by simpa using hb12
   refine AWp_seqK fun Y1 y1 => ?_
   refine AWp_region ?_
   refine aops_chunk 1 fun Q0 q0 => ?_
   simp only [↓bO, go_sem, seval, Tok.cells, hw5, hw6]
   refine APure.call (awake4_pure) ?_
   try simp only [bS, bA, thenQ, blockQ, noGotoQ]
   refine q0 _ ?_
   clear q0 Q0
   simp only [go_sem]
   simp only [↓bO, go_sem, seval, Tok.cells, hw5, hw6]
   refine y1 _ ?_
   try clear y1 Y1
   refine AWp_ret ?_
   try simp only [thenQ, blockQ, noGotoQ, retQ, aRes, tupOf, bS, bA]
   first | exact Le.refl _ | (refine Le.of_eq (congrArg (fun b => AV.v (.bool b)) ?_); simp_all [Ty.same_refl]; done) | (refine Le.of_eq (congrArg (fun b => AV.v (.bool b)) ?_); rw [hq]; simp [Ty.same_refl]; done)
  ·
   have hg : gr4 l = false := by simpa using hb12
   have hln := gr4_len hg
   refine AWp_skip ?_
   try simp only [thenQ, blockQ, noGotoQ]
   refine y0 _ ?_
   try clear y0 Y0
   refine AWp_seqK fun Y0 y0 => ?_
   refine AWp_region ?_
   iterate 3 (refine aops_chunk 1 fun Q0 q0 => ?_; simp only [↓bO, go_sem, seval, Tok.cells, hw5, hw6]; refine q0 _ ?_; clear q0 Q0; simp only [go_sem])
   refine aops_chunk 1 fun Q0 q0 => ?_
   simp only [↓bO, go_sem, seval, Tok.cells, hw5, hw6]
   refine APure.call (Read_pure l n 0 1 (by omega) (by omega) (by omega)) ?_
   try simp only [bS, bA, thenQ, blockQ, noGotoQ]
   iterate 7 (refine q0 _ ?_; clear q0 Q0; simp only [go_sem]; refine aops_chunk 1 fun Q0 q0 => ?_; simp only [↓bO, go_sem, seval, Tok.cells, hw5, hw6])
   refine q0 _ ?_
   clear q0 Q0
   simp only [go_sem]
   simp only [↓bO, go_sem, seval, Tok.cells, hw5, hw6]
   refine y0 _ ?_
   try clear y0 Y0
   refine AWp_seqK fun Y0 y0 => ?_
   refine AWp_region ?_
   iterate 4 (refine aops_chunk 1 fun Q0 q0 => ?_; simp only [↓bO, go_sem, seval, Tok.cells, hw5, hw6]; refine q0 _ ?_; clear q0 Q0; simp only [go_sem])
   refine aops_chunk 1 fun Q0 q0 => ?_
   simp only [↓bO, go_sem, seval, Tok.cells, hw5, hw6]
   refine APure.call (Read_pure l ((n : Int) + 1) 0 1 (by omega) (by omega) (by omega)) ?_
   try simp only [bS, bA, thenQ, blockQ, noGotoQ]
   iterate 7 (refine q0 _ ?_; clear q0 Q0; simp only [go_sem]; refine aops_chunk 1 fun Q0 q0 => ?_; simp only [↓bO, go_sem, seval, Tok.cells, hw5, hw6])
   refine q0 _ ?_
   clear q0 Q0
   simp only [go_sem]
   simp only [↓bO, go_sem, seval, Tok.cells, hw5, hw6]
   refine y0 _ ?_
   try clear y0 Y0
   refine AWp_seqK fun Y0 y0 => ?_
   refine AWp_seqK fun Y1 y1 => ?_
   refine AWp_region ?_
   refine aops_chunk 1 fun Q0 q0 => ?_
   simp only [↓bO, go_sem, seval, Tok.cells, hw5, hw6]
   refine q0 _ ?_
   clear q0 Q0
   simp only [go_sem]
   simp only [↓bO, go_sem, seval, Tok.cells, hw5, hw6]
   refine y1 _ ?_
   try clear y1 Y1
   refine AWp_cond rfl (fun hb32 => ?_) (fun hb32 => ?_)
   ·
    have he4 : (rdF l n 0 1).2.2 = 4 := by simpa using hb32
    have hle : (rdF l n 0 1).2.1 ≤ (rdF l ((n : Int) + 1) 0 1).2.1 := by (unfold More at hmo; rwa [if_pos he4] at hmo)
    refine AWp_seqK fun Y1 y1 => ?_
    refine AWp_region ?_
    iterate 4 (refine aops_chunk 1 fun Q0 q0 => ?_; simp only [↓bO, go_sem, seval, Tok.cells, hw5, hw6]; refine q0 _ ?_; clear q0 Q0; simp only [go_sem])
    refine aops_case 36 rfl (fun hc36 => ?_) (fun hc36 => ?_)
    ·
     simp only [List.set_cons_zero, List.set_cons_succ]
     refine aops_chunk 1 fun Q0 q0 => ?_
     simp only [↓bO, go_sem, seval, Tok.cells, hw5, hw6]
     refine APure.call (awake4_pure) ?_
     try simp only [bS, bA, thenQ, blockQ, noGotoQ]
     refine q0 _ ?_
     clear q0 Q0
     simp only [go_sem]
     refine aops_chunk 1 fun Q0 q0 => ?_
     simp only [↓bO, go_sem, seval, Tok.cells, hw5, hw6]
     refine q0 _ ?_
     clear q0 Q0
     simp only [go_sem]
     simp only [↓bO, go_sem, seval, Tok.cells, hw5, hw6]
     refine y1 _ ?_
     try clear y1 Y1
     refine AWp_ret ?_
     try simp only [thenQ, blockQ, noGotoQ, retQ, aRes, tupOf, bS, bA]
     first | exact Le.refl _ | (refine Le.of_eq (congrArg (fun b => AV.v (.bool b)) ?_); simp_all [Ty.same_refl]; done) | (refine Le.of_eq (congrArg (fun b => AV.v (.bool b)) ?_); rw [hq]; simp [Ty.same_refl]; done)
    ·
     simp only [List.set_cons_zero, List.set_cons_succ]
     exact absurd hc36 (by simpa using hle)
   ·
    have he4 : ¬ (rdF l n 0 1).2.2 = 4 := by simpa using hb32
    have hq : rdF l ((n : Int) + 1) 0 1 = rdF l n 0 1 := by (unfold More at hmo; rwa [if_neg he4] at hmo)
    refine AWp_skip ?_
    try simp only [thenQ, blockQ, noGotoQ]
    refine y0 _ ?_
    try clear y0 Y0
    refine AWp_seqK fun Y0 y0 => ?_
    refine AWp_region ?_
    iterate 2 (refine aops_chunk 1 fun Q0 q0 => ?_; simp only [↓bO, go_sem, seval, Tok.cells, hw5, hw6]; refine q0 _ ?_; clear q0 Q0; simp only [go_sem])
    refine aops_chunk 1 fun Q0 q0 => ?_
    simp only [↓bO, go_sem, seval, Tok.cells, hw5, hw6]
    refine APure.call (Same_pure (rdF l n 0 1).1 (rdF l ((n : Int) + 1) 0 1).1) ?_
    try simp only [bS, bA, thenQ, blockQ, noGotoQ]
    refine q0 _ ?_
    clear q0 Q0
    simp only [go_sem]
    refine aops_chunk 1 fun Q0 q0 => ?_
    simp only [↓bO, go_sem, seval, Tok.cells, hw5, hw6]
    refine q0 _ ?_
    clear q0 Q0
    simp only [go_sem]
    refine aops_case 42 rfl (fun hc42 => ?_) (fun hc42 => ?_)
    ·
     simp only [List.set_cons_zero, List.set_cons_succ]
     iterate 5 (refine aops_chunk 1 fun Q0 q0 => ?_; simp only [↓bO, go_sem, seval, Tok.cells, hw5, hw6]; refine q0 _ ?_; clear q0 Q0; simp only [go_sem])
     refine aops_case 47 rfl (fun hc47 => ?_) (fun hc47 => ?_)
     ·
      simp only [List.set_cons_zero, List.set_cons_succ]
      iterate 5 (refine aops_chunk 1 fun Q0 q0 => ?_; simp only [↓bO, go_sem, seval, Tok.cells, hw5, hw6]; refine q0 _ ?_; clear q0 Q0; simp only [go_sem])
      refine aops_case 52 rfl (fun hc52 => ?_) (fun hc52 => ?_)
      ·
       simp only [List.set_cons_zero, List.set_cons_succ]
       refine aops_chunk 1 fun Q0 q0 => ?_
       simp only [↓bO, go_sem, seval, Tok.cells, hw5, hw6]
       refine APure.call (awake4_pure) ?_
       try simp only [bS, bA, thenQ, blockQ, noGotoQ]
       refine q0 _ ?_
       clear q0 Q0
       simp only [go_sem]
       refine aops_chunk 1 fun Q0 q0 => ?_
       simp only [↓bO, go_sem, seval, Tok.cells, hw5, hw6]
       refine q0 _ ?_
       clear q0 Q0
       simp only [go_sem]
       simp only [↓bO, go_sem, seval, Tok.cells, hw5, hw6]
       refine y0 _ ?_
       try clear y0 Y0
       refine AWp_ret ?_
       try simp only [thenQ, blockQ, noGotoQ, retQ, aRes, tupOf, bS, bA]
       first | exact Le.refl _ | (refine Le.of_eq (congrArg (fun b => AV.v (.bool b)) ?_); simp_all [Ty.same_refl]; done) | (refine Le.of_eq (congrArg (fun b => AV.v (.bool b)) ?_); rw [hq]; simp [Ty.same_refl]; done)
      ·
       simp only [List.set_cons_zero, List.set_cons_succ]
       exact absurd hc52 (by rw [hq]; simp [Ty.same_refl])
     ·
      simp only [List.set_cons_zero, List.set_cons_succ]
      exact absurd hc47 (by rw [hq]; simp [Ty.same_refl])
    ·
     simp only [List.set_cons_zero, List.set_cons_succ]
     exact absurd hc42 (by rw [hq]; simp [Ty.same_refl])
end Go.Proofs.YtnlonnnhofagaaaDoor
namespace Go.Proofs.YtnlonnnhofagaaaDoor.signatureLevels
open Go Go.ChangeShapes Go.WideShapes Go.ChangeAt Go.RowKit
set_option linter.unusedVariables false
theorem own : ownKnob Tryd.prog.godebug = none := by kernel_rfl
theorem laidOut : laidOutB Tryd.prog = true := by kernel_rfl
theorem cT : Tryd.prog.cellsOf 28 = 3 := by kernel_rfl
theorem cI : Tryd.prog.cellsOf 3 = 1 := by kernel_rfl
theorem cS : Tryd.prog.cellsOf 26 = 1 := by kernel_rfl
section
variable {H : Type} {enc : TypeId × Value → H} {w : World} {base : Nat} {spare : Nat → Bool} {held : Bool}
theorem rdT (fuel : Nat) : Rd enc Tryd.prog w base spare held Env.none fuel 28 Ty.cells :=
  rd_ty Tryd.underlying28 cT rfl rfl rfl rfl rfl rfl Tryd.underlying3 cI Tryd.underlying26 cS fuel
theorem rdS (fuel : Nat) : Rd enc Tryd.prog w base spare held Env.none fuel 26 (fun xs : List Ty => [.sl 3 (xs.map Ty.cells)]) :=
  rd_slice Tryd.underlying26 cT (by omega) Ty.cells_len fun n _ => rdT n
theorem cK : Tryd.prog.cellsOf 51 = 4 := by kernel_rfl
theorem cP2 : Tryd.prog.cellsOf 49 = 2 := by kernel_rfl
theorem cStr : Tryd.prog.cellsOf 9 = 1 := by kernel_rfl
theorem rdK (fuel : Nat) : Rd enc Tryd.prog w base spare held Env.none fuel 51 Tok.cells :=
  rd_tok Tryd.underlying51 cK cI cStr cP2 rfl rfl rfl rfl rfl rfl Tryd.underlying3 Tryd.underlying9 (fun n => rd_two2 Tryd.underlying49 cP2 rfl rfl rfl rfl Tryd.underlying3 cI n) fuel
theorem rdKs (fuel : Nat) : Rd enc Tryd.prog w base spare held Env.none fuel 22 (fun xs : List Tok => [.sl 4 (xs.map Tok.cells)]) :=
  rd_slice Tryd.underlying22 cK (by omega) (fun _ => rfl) fun n _ => rdK n
end
set_option maxRecDepth 100000 in
theorem lifted (os : Go.Os) (started : os.Started) (H : Type) (enc : TypeId × Value → H) :
    ReturnsInHanded {} Tryd.checked os 4 .any (fun w args => (Rows.signatureLevelsSpec.pre enc Tryd.prog Tryd.f4 Rows.signatureLevelsRow.domain false w args ∧ laidMetH Tryd.prog Rows.signatureLevelsRow.laid w) ∧ sizedMet enc Tryd.prog Tryd.f4 (OpenSpec.ofChange Rows.signatureLevelsSpec) false w args)
      (Rows.signatureLevelsSpec.post enc Tryd.prog Tryd.f4 false true false false) := by
  refine returnsInHanded_of_change_and (C := Tryd.checked) (X := fun w _ => laidMetH Tryd.prog Rows.signatureLevelsRow.laid w) (fun _ _ _ hh h => h.of_heap hh) own started (by kernel_rfl) Tryd.func4
    (ChangeSpec.witness_shaped (enc := enc) (C := Tryd.checked) (os := os) (X := fun w _ => laidMetH Tryd.prog Rows.signatureLevelsRow.laid w) false (World.laidAll Tryd.prog os Rows.signatureLevelsRow.laid) #[.slice none 0 0, .int .u8 0] 8 (World.laidAll_os _ _ _)
      (World.shaped_of_ZipB (by kernel_rfl) (by kernel_rfl)) (by kernel_rfl) (by kernel_rfl) (by kernel_rfl)
      (by rw [MakeChecks.laidMetH_plain _ _ _ (by kernel_rfl)]; exact laidMet_laidAll _ (by kernel_rfl) (by kernel_rfl))) ?_
  intro W base args ds gs before hval0 hW hcnd _ hL _
  have hlaid : laidMet Tryd.prog Rows.signatureLevelsRow.laid W := by have h := hL; rw [MakeChecks.laidMetH_plain _ _ _ (by kernel_rfl)] at h; exact h
  have hgl : Gl (fun _ _ => False) W := by
    intro p hp
    have hp : p ∈ [(0, gv0), (3, gv3)] := hp
    rcases List.mem_cons.1 hp with rfl | hp
    · refine gl_one (Lib.tabIs_of_head (zs := gz0) (k := .u8) (g := 0) (t := 102) (e := 5) (n := 256) (rest := []) (name := "strings.asciiSpace") (by kernel_rfl) (by kernel_rfl) Tryd.underlying102 Tryd.underlying5 (by kernel_rfl) (by kernel_rfl) ?_) (by kernel_rfl) rfl
      have h := hlaid.filter (fun x => x.1 == "strings.asciiSpace")
      rw [show (Rows.signatureLevelsRow.laid.filter fun x => x.1 == "strings.asciiSpace") = [("strings.asciiSpace", Lib.tabData .u8 gz0)] from by kernel_rfl] at h
      exact h
    rcases List.mem_cons.1 hp with rfl | hp
    · refine gl_one (Lib.tabIs_of_head (zs := gz3) (k := .u64) (g := 3) (t := 141) (e := 117) (n := 20) (rest := []) (name := "internal/strconv.uint64pow10") (by kernel_rfl) (by kernel_rfl) Tryd.underlying141 Tryd.underlying117 (by kernel_rfl) (by kernel_rfl) ?_) (by kernel_rfl) rfl
      have h := hlaid.filter (fun x => x.1 == "internal/strconv.uint64pow10")
      rw [show (Rows.signatureLevelsRow.laid.filter fun x => x.1 == "internal/strconv.uint64pow10") = [("internal/strconv.uint64pow10", Lib.tabData .u64 gz3)] from by kernel_rfl] at h
      exact h
    cases hp
  have hval : ∀ (j : Nat) t v, Tryd.f4.params[j]? = some t → args[j]? = some v → Value.okWide Tryd.prog W .any base t v := hval0
  have hW' := hW
  obtain ⟨p, q, hA0, hV, rfl, hfz, hnd⟩ := hW
  have hA : DataW.TrodAll enc Tryd.prog W 0 (fun _ => true) true Tryd.f4.params.toList args.toList ds p := hA0
  rw [Tryd.params4] at hA hval
  obtain ⟨v0, vs0, d0, ds0, p0, q0, hargs, rfl, rfl, h0, r0⟩ := trodAll_cons hA
  obtain ⟨v1, vs1, d1, ds1, p1, q1, rfl, rfl, rfl, h1, r1⟩ := trodAll_cons r0
  obtain ⟨rfl, rfl, rfl⟩ := trodAll_nil r1
  obtain rfl : args = #[v0, v1] := by cases args; simp_all
  obtain ⟨rfl, rfl⟩ := trodVars_none hV
  have k0 := h0
  have lt0 : ∀ x ∈ p0, x.block < W.heap.size := by obtain ⟨m, hm⟩ := k0; exact DataW.trod_lt m _ _ _ hm
  obtain ⟨b0, len0, cap0, rfl⟩ := okWide_slice Tryd.underlying22 (hval 0 22 v0 rfl rfl)
  obtain ⟨P0, hr0⟩ : ∃ P : List Tok, Rp Env.none (fun _ _ => False) W (.sl 4 (P.map Tok.cells)) (.slice b0 len0 cap0) := by
    obtain ⟨m, hm⟩ := h0
    obtain ⟨P, _, hr⟩ := rdKs m _ _ hm
    exact ⟨P, hr 0 _ _ rfl rfl⟩
  obtain ⟨a1, rfl, rfl, rfl, w1⟩ := open_int Tryd.underlying5 (hval 1 5 v1 rfl rfl) h1
  have wn1 : 0 ≤ a1 ∧ a1 < 256 := by
    have h9 := w1
    have e1 : IntKind.u8.min = 0 := rfl
    have e2 : IntKind.u8.max = 255 := rfl
    simp only [Lit.wf, Bool.and_eq_true, decide_eq_true_eq, e1, e2] at h9
    omega
  obtain ⟨n1, rfl⟩ : ∃ n : Nat, a1 = (n : Int) := ⟨a1.toNat, by omega⟩
  clear hA0 hval0
  refine ((SignatureLevels_pure P0 n1 (by omega)).calls (w := W) rfl ?_ hgl).mono fun e W' ⟨he, bel⟩ => ?_
  · intro i c u hc hu
    match i with
    | 0 => simp at hc hu; subst hc; subst hu; exact hr0
    | 1 => simp at hc hu; subst hc; subst hu; exact .v _
    | i + 2 => simp at hc
  subst he
  exact ⟨_, rfl, _, _, _, [], _, [], hW', trodAll_mk1 (shut_bool Tryd.underlying4 _), (trodAll_cons_mk (Below.trod laidOut (by kernel_rfl) (of_decide_eq_true (by kernel_rfl)) k0 bel lt0) (trodAll_cons_mk (shut_int Tryd.underlying5 w1) trodAll_mk0)), rfl, bel.frame _, fun h => by cases h⟩
theorem over : Rows.signatureLevelsRow.holds Tryd.pinned (OpenSpec.ofChange Rows.signatureLevelsSpec) :=
  OpenClaim.holds_of_wide 4 Tryd.f4 rfl rfl rfl rfl rfl rfl rfl ⟨rfl, rfl, rfl, rfl, rfl⟩ rfl rfl rfl rfl rfl (by kernel_rfl) Tryd.func4 (by kernel_rfl)
    (of_decide_eq_true (by kernel_rfl)) (by unfold Func.isWrapper; first | (rw [if_pos (by decide +kernel)]; kernel_rfl) | (rw [if_neg (by decide +kernel)]; exact ⟨rfl, rfl⟩))
    (fun os started H enc _ => lifted os started H enc)
end Go.Proofs.YtnlonnnhofagaaaDoor.signatureLevels
namespace Go.Proofs.YtnlonnnhofagaaaDoor
theorem signatureLevels_proved : Rows.SignatureLevelsCardSaid :=
  Claim7.holds_tied_plain_at .later [] _ _ _ _ signatureLevels.over (fun _ h => by cases h) (by kernel_rfl) (fun _ h => by cases h) signatureLevels_row_tie rfl ⟨rfl, rfl⟩ (by kernel_rfl) rfl
    (fun f fn hf hfn => by
      obtain rfl : f = 4 := Option.some.inj ((show Tryd.prog.funcNamed "pangram/pangramlaw04.SignatureLevels" = some 4 by kernel_rfl).symm.trans hf) |>.symm
      obtain rfl : fn = Tryd.f4 := (Option.some.inj (Tryd.func4.symm.trans hfn)).symm
      refine ⟨by kernel_rfl, fun j t ht => ?_⟩
      rw [Tryd.params4] at ht
      have hm : t ∈ [22, 5] := by simpa using Array.mem_of_getElem? ht
      have hall : ([22, 5].all fun u => !Tryd.prog.wantsStandIn u) = true := by kernel_rfl
      have := List.all_eq_true.1 hall t hm
      have h9 : Tryd.prog.wantsStandIn t = false := by simpa using this
      exact h9)
    (by kernel_rfl)
#print axioms signatureLevels_proved
end Go.Proofs.YtnlonnnhofagaaaDoor
