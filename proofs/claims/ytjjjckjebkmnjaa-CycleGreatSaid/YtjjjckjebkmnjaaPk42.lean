/- Texts of the abstract walk, of the contracts and of the plain laws, packed (part 42 of 43): Cy1 Cy2 Cy3 Cy4 Cy5 Cy6 Cy7 Cy8 Cy9 CyV CyM Cy11 Cy12. Conditions: none. -/
import Derived.Test.YtjjjckjebkmnjaaPk41
namespace Go.Proofs.Ytjjjckjebkmnjaa
open Go Go.RowKit
set_option maxRecDepth 100000
set_option maxHeartbeats 4000000
set_option linter.unusedSimpArgs false
set_option linter.unusedVariables false
attribute [local irreducible] aops dRun
def wObs (W : WS) : List Ob := [.map (mC cI W.st), .map (mC cB W.cy), .map (mC cI W.de), .map (mC cI W.sz), .cells 108 [.map 8, .map 9, .map 10, .map 11, .v (.int .i64 W.steps), .v (.bool W.bad)]]
theorem wUnd {n : Nat} (h : 13 ≤ n) (S : CS) (W : WS) : UndOs n (enumO 0 (cObs S ++ wObs W ++ [])) :=
  ⟨by omega, ⟨.v _ _, .ptr (by omega), .ptr (by omega), .own (by omega), .v _ _, trivial⟩, by omega, ⟨.osl (by omega) (.data (.sl (GNode.dataRows S.G.N))), .map (by omega), trivial⟩, by omega, trivial, by omega, fun p hp => .data (vC_data S.G.V p hp),
    by omega, ⟨.own (by omega), .own (by omega), .v _ _, .v _ _, trivial⟩, by omega, Und.rowI (nC_data _), by omega, Und.rowI (iC_data _), by omega, Und.rowI (iC_data _),
    by omega, fun p hp => .data (mC_dataI _ p hp), by omega, fun p hp => .data (mC_dataB _ p hp), by omega, fun p hp => .data (mC_dataI _ p hp), by omega, fun p hp => .data (mC_dataI _ p hp), by omega, ⟨.map (by omega), .map (by omega), .map (by omega), .map (by omega), .v _ _, .v _ _, trivial⟩, trivial⟩
theorem renW (S : CS) (W : WS) (nx : Nat) : RenOs (renOf [0, 1, 2, 3, 4, 5, 6, 7, 8, 9, 10, 11, 12] nx) 0 (cObs S ++ wObs W) (cObs S ++ wObs W) :=
  ⟨.cells ⟨.v _, .ptr rfl, .ptr rfl, .own rfl, .v _, trivial⟩, .cells ⟨.osl rfl (GNode.dataRows S.G.N), .map rfl, trivial⟩, .tok, .map (vC_data S.G.V), .cells ⟨.own rfl, .own rfl, .v _, .v _, trivial⟩, .row (nC_data _), .row (iC_data _), .row (iC_data _),
    .map (mC_dataI _), .map (mC_dataB _), .map (mC_dataI _), .map (mC_dataI _), .cells ⟨.map rfl, .map rfl, .map rfl, .map rfl, .v _, .v _, trivial⟩, trivial⟩
def WCalls {σ : Type} (f : Nat) (args : List AV) (S : CS) (W : WS) (C : (FS × WS) × σ → Prop) (R : σ → AV) : Prop :=
  ACalls Try.prog f args (enumO 0 (cObs S ++ wObs W ++ [])) 13 fun z os n => (∃ s : (FS × WS) × σ, C s ∧ z = R s.2 ∧ os = enumO 0 (cObs { S with F := s.1.1 } ++ wObs s.1.2 ++ [])) ∧ n = 13
theorem WCalls.at {σ : Type} {f : Nat} {args : List AV} {S : CS} {W : WS} {C : (FS × WS) × σ → Prop} {R : σ → AV} (h : WCalls f args S W C R) {os' : Os} {nx' : Nat}
    (ha : RenL (renOf [0, 1, 2, 3, 4, 5, 6, 7, 8, 9, 10, 11, 12] nx') args args) (hR : ∀ s, RenV (renOf [0, 1, 2, 3, 4, 5, 6, 7, 8, 9, 10, 11, 12] nx') (R s) (R s)) (hlt : 13 ≤ nx') (hg : GetsO os' [0, 1, 2, 3, 4, 5, 6, 7, 8, 9, 10, 11, 12] (cObs S ++ wObs W)) {Q' : AV → Os → Nat → Prop}
    (hq : ∀ (F1 : FS) (W1 : WS) (s : σ), C ((F1, W1), s) → Q' (R s) (putsO os' ([0, 1, 2, 3, 4, 5, 6, 7, 8, 9, 10, 11, 12].zip (cObs { S with F := F1 } ++ wObs W1))) nx') : ACalls Try.prog f args os' nx' Q' :=
  ACalls.atE (σ := (FS × WS) × σ) (C := C) (args := args) (R := fun s => R s.2) (R' := fun s => R s.2) (obs := cObs S ++ wObs W) (obs1 := fun s => cObs { S with F := s.1.1 } ++ wObs s.1.2) (obs' := cObs S ++ wObs W) (obs1' := fun s => cObs { S with F := s.1.1 } ++ wObs s.1.2) [0, 1, 2, 3, 4, 5, 6, 7, 8, 9, 10, 11, 12]
    (by unfold WCalls at h; simp only [List.append_nil] at h; exact h) rfl (fun _ => rfl) (by decide) (by simp only [List.mem_cons, List.not_mem_nil, or_false]; omega) ha (fun s => hR s.2) (renW S W nx') hg (fun s => renW _ s.1.2 nx') (fun s hs => hq s.1.1 s.1.2 s.2 hs)
theorem wrap_step {n : Int} (h0 : 0 ≤ n) (h1 : n ≤ 1000000000) : IntKind.i64.wrap (n + 1) = n + 1 := wrap_in (by omega) (by omega)
theorem begin_c (S : CS) (hS : CyG S) (W : WS) (h0 : 0 ≤ W.steps) (h1 : W.steps ≤ 1000000000) (r : Nat) (hr : Rt S.F.up r r) : ACalls Try.prog 101 [.ptr 12 0, .agg [.ptr 0 0, .v (.int .i64 (r : Int))]] (enumO 0 (cObs (S) ++ wObs (W) ++ [])) 13 fun z os n => (∃ s : (FS × WS) × Unit, (FSame S.F s.1.1 ∧ s.1.2 = W.begin r) ∧ z = (fun s : Unit => .agg (frC (kids S) (r, 0))) s.2 ∧ os = enumO 0 (cObs { S with F := s.1.1 } ++ wObs s.1.2 ++ [])) ∧ n = 13 := by
  refine ACalls.clean (C := fun zr zo => ∃ s : (FS × WS) × Unit, (FSame S.F s.1.1 ∧ s.1.2 = W.begin r) ∧ zr = (fun s : Unit => .agg (frC (kids S) (r, 0))) s.2 ∧ zo = enumO 0 (cObs { S with F := s.1.1 } ++ wObs s.1.2 ++ [])) ?_
  refine ACalls_intro Try.func101 (by kernel_rfl) rfl (by rw [Try.ntmps101]; simp) (fun hm => ?_)
  simp only [Try.ntmps101, Try.results101, List.length_cons, List.length_nil, Nat.reduceAdd, Nat.reduceSub, List.replicate_succ, List.replicate_zero, List.cons_append, List.nil_append]
  simp only [cObs, wObs, List.cons_append, List.nil_append, enumO, Nat.reduceAdd]
  have hrl := hr.lt
  have hfl := hS.c.fl
  obtain ⟨x, hx⟩ : ∃ x, S.W[r]? = some x := ⟨_, List.getElem?_eq_getElem (by omega)⟩
  have hw1 := wrap_step h0 h1
  refine AWp_seqK fun Y0 y0 => ?_
  refine AWp_region ?_
  refine aops_chunk 1 fun Q0 q0 => ?_
  simp only [↓bO, go_sem, seval, look_I, look_B, upd_I, upd_B, hw1]
  refine q0 _ ?_
  clear q0 Q0
  simp only [go_sem]
  simp only [↓bO, go_sem, seval, look_I, look_B, upd_I, upd_B, hw1]
  refine y0 _ ?_
  try clear y0 Y0
  refine AWp_seqK fun Y0 y0 => ?_
  refine AWp_region ?_
  iterate 7 (refine aops_chunk 1 fun Q0 q0 => ?_; simp only [↓bO, go_sem, seval, look_I, look_B, upd_I, upd_B, hw1]; refine q0 _ ?_; clear q0 Q0; simp only [go_sem])
  simp only [↓bO, go_sem, seval, look_I, look_B, upd_I, upd_B, hw1]
  refine y0 _ ?_
  try clear y0 Y0
  refine AWp_seqK fun Y0 y0 => ?_
  refine AAny_start [(12, 0, [.map 8]), (13, 0, [.ptr 0 0, .v (.int .i64 (r : Int))])] 7 rfl mixed (⟨⟨_, _, rfl, by simp, rfl, trivial, trivial⟩, ⟨_, _, rfl, by simp, rfl, trivial, trivial, trivial⟩, trivial⟩) rfl ?_
  dsimp only
  refine AAny_takeK 0 rfl (by kernel_rfl) (by kernel_rfl) (by kernel_rfl) (fun _ _ h => h) fun Q0 q0 => ?_
  simp only [↓bO, go_sem, seval, look_I, look_B, upd_I, upd_B, hw1]
  refine q0 _ ?_
  clear q0 Q0
  refine AAny_takeK 1 rfl (by kernel_rfl) (by kernel_rfl) (by kernel_rfl) (fun _ _ h => h) fun Q0 q0 => ?_
  simp only [↓bO, go_sem, seval, look_I, look_B, upd_I, upd_B, hw1]
  refine q0 _ ?_
  clear q0 Q0
  refine AAny_takeK 2 rfl (by kernel_rfl) (by kernel_rfl) (by kernel_rfl) (fun _ _ h => h) fun Q0 q0 => ?_
  simp only [↓bO, go_sem, seval, look_I, look_B, upd_I, upd_B, hw1]
  refine q0 _ ?_
  clear q0 Q0
  refine AAny_loadK 3 0 rfl rfl (by kernel_rfl) (by kernel_rfl) (by kernel_rfl) (fun _ _ h => h) fun Q0 q0 => ?_
  simp only [↓bO, go_sem, seval, look_I, look_B, upd_I, upd_B, hw1]
  refine q0 _ ?_
  clear q0 Q0
  refine AAny_loadK 4 1 rfl rfl (by kernel_rfl) (by kernel_rfl) (by kernel_rfl) (fun _ _ h => h) fun Q0 q0 => ?_
  simp only [↓bO, go_sem, seval, look_I, look_B, upd_I, upd_B, hw1]
  refine q0 _ ?_
  clear q0 Q0
  refine AAny_all1 (i := 5) (by kernel_rfl) ?_
  ·
   refine aAt_op rfl rfl fun Q0 q0 => ?_
   simp only [↓bO, go_sem, seval, look_I, look_B, upd_I, upd_B, hw1]
   refine CCalls.atP (PId_c (S) (r : Int)) (i0 := 0) (i1 := 1) (i2 := 2) (i3 := 3) (i4 := 4) (i5 := 5) (i6 := 6) (i7 := 7) (by exact ⟨.agg ⟨.ptr rfl, .v _, trivial⟩, trivial⟩) (fun _ => by exact .v _) (by decide) (by simp) ⟨rfl, rfl, rfl, rfl, rfl, rfl, rfl, rfl, trivial⟩ (fun Z1 u1 hZ1 => ?_)
   try dsimp only at hZ1
   simp only [cObsAt, List.zip_cons_cons, List.zip_nil_left, List.zip_nil_right, putsO, putO, Nat.reduceEqDiff, ↓reduceIte]
   obtain rfl : S = Z1 := hZ1.symm
   try simp only [bS, bA]
   refine q0 _ ⟨⟨⟨_, _, rfl, by simp, rfl, trivial, trivial⟩, ⟨_, _, rfl, by simp, rfl, trivial, trivial, trivial⟩, trivial⟩, ?_⟩
   clear q0 Q0
   refine AAny_all1 (i := 6) (by kernel_rfl) ?_
   ·
    refine aAt_op rfl rfl fun Q0 q0 => ?_
    simp only [↓bO, go_sem, seval, look_I, look_B, upd_I, upd_B, hw1]
    refine q0 _ ⟨⟨⟨_, _, rfl, by simp, rfl, trivial, trivial⟩, ⟨_, _, rfl, by simp, rfl, trivial, trivial, trivial⟩, trivial⟩, ?_⟩
    clear q0 Q0
    refine AAny_done (by kernel_rfl) ?_
    simp only [thenQ, blockQ, noGotoQ]
    refine y0 _ ?_
    try clear y0 Y0
    refine AWp_seqK fun Y0 y0 => ?_
    refine AAny_start [(13, 0, [.ptr 0 0, .v (.int .i64 (r : Int))])] 6 rfl mixed (⟨⟨_, _, rfl, by simp, rfl, trivial, trivial, trivial⟩, trivial⟩) rfl ?_
    dsimp only
    refine AAny_loadK 0 0 rfl rfl (by kernel_rfl) (by kernel_rfl) (by kernel_rfl) (fun _ _ h => h) fun Q0 q0 => ?_
    simp only [↓bO, go_sem, seval, look_I, look_B, upd_I, upd_B, hw1]
    refine q0 _ ?_
    clear q0 Q0
    refine AAny_loadK 2 0 rfl rfl (by kernel_rfl) (by kernel_rfl) (by kernel_rfl) (fun _ _ h => h) fun Q0 q0 => ?_
    simp only [↓bO, go_sem, seval, look_I, look_B, upd_I, upd_B, hw1]
    refine q0 _ ?_
    clear q0 Q0
    refine AAny_all1 (i := 1) (by kernel_rfl) ?_
    ·
     refine aAt_op rfl rfl fun Q0 q0 => ?_
     simp only [↓bO, go_sem, seval, look_I, look_B, upd_I, upd_B, hw1]
     refine CCalls.atP (PId_c (S) (r : Int)) (i0 := 0) (i1 := 1) (i2 := 2) (i3 := 3) (i4 := 4) (i5 := 5) (i6 := 6) (i7 := 7) (by exact ⟨.agg ⟨.ptr rfl, .v _, trivial⟩, trivial⟩) (fun _ => by exact .v _) (by decide) (by simp) ⟨rfl, rfl, rfl, rfl, rfl, rfl, rfl, rfl, trivial⟩ (fun Z2 u2 hZ2 => ?_)
     try dsimp only at hZ2
     simp only [cObsAt, List.zip_cons_cons, List.zip_nil_left, List.zip_nil_right, putsO, putO, Nat.reduceEqDiff, ↓reduceIte]
     obtain rfl : S = Z2 := hZ2.symm
     try simp only [bS, bA]
     refine q0 _ ⟨⟨⟨_, _, rfl, by simp, rfl, trivial, trivial, trivial⟩, trivial⟩, ?_⟩
     clear q0 Q0
     refine AAny_all1 (i := 3) (by kernel_rfl) ?_
     ·
      refine aAt_op rfl rfl fun Q0 q0 => ?_
      simp only [↓bO, go_sem, seval, look_I, look_B, upd_I, upd_B, hw1]
      refine CCalls.atP (R' := fun s => .sl 2 (s.map (partC 0))) (PParts_c S hS.c.f hS.c.pl hS.c.wr r x hx (hS.g0 r x hr hx)) (i0 := 0) (i1 := 1) (i2 := 2) (i3 := 3) (i4 := 4) (i5 := 5) (i6 := 6) (i7 := 7) (by exact ⟨.agg ⟨.ptr rfl, .v _, trivial⟩, trivial⟩) (fun _ => by exact .parts rfl _) (by decide) (by simp) ⟨rfl, rfl, rfl, rfl, rfl, rfl, rfl, rfl, trivial⟩ (fun Z4 rs hZ4 => ?_)
      try dsimp only at hZ4
      simp only [cObsAt, List.zip_cons_cons, List.zip_nil_left, List.zip_nil_right, putsO, putO, Nat.reduceEqDiff, ↓reduceIte]
      obtain ⟨F2, rfl⟩ : ∃ F2, Z4 = { S with F := F2 } := ⟨Z4.F, hZ4.2.1⟩
      have hF2 : FSame S.F F2 := hZ4.1
      have hkd : kids S r = rs := kids_eq ⟨x, hx, hZ4.2.2⟩
      try simp only [bS, bA]
      refine q0 _ ⟨⟨⟨_, _, rfl, by simp, rfl, trivial, trivial, trivial⟩, trivial⟩, ?_⟩
      clear q0 Q0
      refine AAny_all1 (i := 4) (by kernel_rfl) ?_
      ·
       refine aAt_op rfl rfl fun Q0 q0 => ?_
       simp only [↓bO, go_sem, seval, look_I, look_B, upd_I, upd_B, hw1]
       refine q0 _ ⟨⟨⟨_, _, rfl, by simp, rfl, trivial, trivial, trivial⟩, trivial⟩, ?_⟩
       clear q0 Q0
       refine AAny_all1 (i := 5) (by kernel_rfl) ?_
       ·
        refine aAt_op rfl rfl fun Q0 q0 => ?_
        simp only [↓bO, go_sem, seval, look_I, look_B, upd_I, upd_B, hw1]
        refine q0 _ ⟨⟨⟨_, _, rfl, by simp, rfl, trivial, trivial, trivial⟩, trivial⟩, ?_⟩
        clear q0 Q0
        refine AAny_done (by kernel_rfl) ?_
        simp only [thenQ, blockQ, noGotoQ]
        refine y0 _ ?_
        try clear y0 Y0
        refine AWp_ret ?_
        try simp only [thenQ, blockQ, noGotoQ, retQ, aRes, tupOf, bS, bA, aLoad, getO, pack, bL, Nat.reduceAdd, Nat.reduceLeDiff, Nat.reduceEqDiff, ↓reduceIte, ti135, List.length_map, Int.toNat_natCast, Int.natCast_nonneg, look_I, look_B, upd_I, upd_B, hw1]
        refine ⟨_, enumO 0 (cObs { S with F := F2 } ++ wObs (W.begin r) ++ []), ⟨((F2, W.begin r), ()), ?_, rfl, rfl⟩, .agg (Und.frame _ (by omega) _), wUnd (by omega) _ _, ?_, ?_, by omega⟩
        · exact ⟨hF2, rfl⟩
        ·
         rw [frC, hkd]
         exact Le.refl _
        · first | (refine ⟨2, rfl, rfl⟩) | (refine ⟨1, rfl, rfl⟩) | (refine ⟨0, rfl, rfl⟩) | (refine ⟨2, by simp only [cObs, wObs, List.cons_append, List.nil_append, enumO, List.drop_zero, List.drop_succ_cons, Nat.reduceAdd, WS.begin], rfl⟩) | (refine ⟨1, by simp only [cObs, wObs, List.cons_append, List.nil_append, enumO, List.drop_zero, List.drop_succ_cons, Nat.reduceAdd, WS.begin], rfl⟩) | (refine ⟨0, by simp only [cObs, wObs, List.cons_append, List.nil_append, enumO, List.drop_zero, List.drop_succ_cons, Nat.reduceAdd, WS.begin], rfl⟩)
theorem lUnd {n : Nat} (h : 14 ≤ n) (S : CS) (W : WS) (K : Nat → List Nat) (stk : List (Nat × Nat)) : UndOs n (enumO 0 (cObs S ++ wObs W ++ [.row 135 3 (stk.map (frC K))])) := by
  have h1 := wUnd (n := n) (by omega) S W
  obtain ⟨a0, a1, b0, b1, c0, c1, d0, d1, e0, e1, f0, f1, g0, g1, i0, i1, j0, j1, k0, k1, l0, l1, m0, m1, o0, o1, _⟩ := h1
  exact ⟨a0, a1, b0, b1, c0, c1, d0, d1, e0, e1, f0, f1, g0, g1, i0, i1, j0, j1, k0, k1, l0, l1, m0, m1, o0, o1, by omega, Und.frames K (by omega) stk, trivial⟩
theorem markTo_snoc {stk : List (Nat × Nat)} {m q : Nat} {p : Nat × Nat} {W : WS} (h : stk[m]? = some p) : markTo q ((stk.take (m + 1)).reverse.map Prod.fst) W = if p.1 = q then W.mark p.1 else markTo q ((stk.take m).reverse.map Prod.fst) (W.mark p.1) := by
  rw [List.take_add_one, h]
  simp only [Option.toList_some, List.reverse_append, List.reverse_cons, List.reverse_nil, List.nil_append, List.cons_append, List.map_cons, markTo]
theorem loop_c (S : CS) (hS : FInv S.F) (W : WS) (K : Nat → List Nat) (stk : List (Nat × Nat)) (hl : stk.length ≤ 1048576) (q : Nat) : ACalls Try.prog 102 [.ptr 12 0, .own 13 stk.length, .v (.int .i64 (q : Int))] (enumO 0 (cObs (S) ++ wObs (W) ++ [.row 135 3 (stk.map (frC K))])) 14 fun z os n => (∃ s : (FS × WS) × Unit, (s.1.1 = S.F ∧ s.1.2 = markTo q (stk.reverse.map Prod.fst) W) ∧ z = (fun s : Unit => .tup []) s.2 ∧ os = enumO 0 (cObs { S with F := s.1.1 } ++ wObs s.1.2 ++ [.row 135 3 (stk.map (frC K))])) ∧ n = 14 := by
  refine ACalls.clean (C := fun zr zo => ∃ s : (FS × WS) × Unit, (s.1.1 = S.F ∧ s.1.2 = markTo q (stk.reverse.map Prod.fst) W) ∧ zr = (fun s : Unit => .tup []) s.2 ∧ zo = enumO 0 (cObs { S with F := s.1.1 } ++ wObs s.1.2 ++ [.row 135 3 (stk.map (frC K))])) ?_
  refine ACalls_intro Try.func102 (by kernel_rfl) rfl (by rw [Try.ntmps102]; simp) (fun hm => ?_)
  simp only [Try.ntmps102, Try.results102, List.length_cons, List.length_nil, Nat.reduceAdd, Nat.reduceSub, List.replicate_succ, List.replicate_zero, List.cons_append, List.nil_append]
  simp only [cObs, wObs, List.cons_append, List.nil_append, enumO, Nat.reduceAdd]
  have hwl : IntKind.i64.wrap ((stk.length : Int) - 1) = (stk.length : Int) - 1 := wrap_in (by omega) (by omega)
  refine AWp_seqK fun Y0 y0 => ?_
  refine AWp_region ?_
  iterate 3 (refine aops_chunk 1 fun Q0 q0 => ?_; simp only [↓bO, go_sem, seval, look_I, look_B, upd_I, upd_B, hwl]; refine q0 _ ?_; clear q0 Q0; simp only [go_sem])
  simp only [↓bO, go_sem, seval, look_I, look_B, upd_I, upd_B, hwl]
  refine y0 _ ?_
  try clear y0 Y0
  refine AWp_block ?_
  refine AWp_loopM (σ := List (Int × Bool) × Nat) (mB 30 71) (fun s => markTo q ((stk.take s.2).reverse.map Prod.fst) { W with cy := s.1 } = markTo q (stk.reverse.map Prod.fst) W ∧ s.2 ≤ stk.length) (fun s => [(6, .v (.int .i64 ((s.2 : Int) - 1)))]) (fun s => [(9, .map (mC cB s.1))]) (fun s => s.2) (W.cy, stk.length) (⟨by rw [List.take_length], Nat.le_refl _⟩) ?_ (fun s hs => ?_)
  ·
   simp only [maskL, setsL, putsO, putO, mB, List.set_cons_zero, List.set_cons_succ, seval]
   exact Weak.mk (by simp only [go_sem, Le.refl, Le.any, Le.slNil, Int.natCast_add, Int.cast_ofNat_Int, Int.natCast_one]) (fun _ _ h => h) rfl rfl
  simp only [maskL, setsL, putsO, putO, mB, List.set_cons_zero, List.set_cons_succ, seval]
  refine AWp_seqK fun Y0 y0 => ?_
  refine AWp_seqK fun Y1 y1 => ?_
  refine AWp_region ?_
  refine aops_chunk 1 fun Q0 q0 => ?_
  simp only [↓bO, go_sem, seval, look_I, look_B, upd_I, upd_B, hwl]
  refine q0 _ ?_
  clear q0 Q0
  simp only [go_sem]
  simp only [↓bO, go_sem, seval, look_I, look_B, upd_I, upd_B, hwl]
  refine y1 _ ?_
  try clear y1 Y1
  refine AWp_cond rfl (fun hb11 => ?_) (fun hb11 => ?_)
  ·
   have hk : 1 ≤ s.2 := by (have h9 := hb11; simp at h9; omega)
   obtain ⟨m, hm⟩ : ∃ m, s.2 = m + 1 := ⟨s.2 - 1, by omega⟩
   have hx1 : (s.2 : Int) - 1 = (m : Int) := by omega
   have hml : m < stk.length := by have := hs.2; omega
   obtain ⟨p, hst⟩ : ∃ p, stk[m]? = some p := ⟨_, List.getElem?_eq_getElem hml⟩
   have hw1 : IntKind.i64.wrap ((m : Int) - 1) = (m : Int) - 1 := wrap_in (by omega) (by omega)
   refine AWp_skip ?_
   try simp only [thenQ, blockQ, noGotoQ]
   refine y0 _ ?_
   try clear y0 Y0
   refine AWp_seqK fun Y0 y0 => ?_
   refine AWp_block ?_
   refine AWp_seqK fun Y1 y1 => ?_
   refine AWp_drawK 9 mixed (by kernel_rfl) fun J0 j0 => ?_
   iterate 8 (simp only [go_sem]; refine dRun_chunk 1 fun Q0 q0 => ?_; simp only [↓dRun, ↓dOp, ↓bO, go_sem, seval, look_I, look_B, upd_I, upd_B, hwl, hx1, hml, gM hst, frC, hw1, WS.mark]; refine q0 _ ?_; clear q0 Q0)
   simp only [go_sem]
   simp only [↓dRun, ↓dOp, ↓bO, go_sem, seval, look_I, look_B, upd_I, upd_B, hwl, hx1, hml, gM hst, frC, hw1, WS.mark]
   refine j0 _ ?_
   clear j0 J0
   simp only [go_sem]
   simp only [↓bO, go_sem, seval, look_I, look_B, upd_I, upd_B, hwl, hx1, hml, gM hst, frC, hw1, WS.mark]
   refine y1 _ ?_
   try clear y1 Y1
   refine AWp_seqK fun Y1 y1 => ?_
   refine AWp_region ?_
   iterate 6 (refine aops_chunk 1 fun Q0 q0 => ?_; simp only [↓bO, go_sem, seval, look_I, look_B, upd_I, upd_B, hwl, hx1, hml, gM hst, frC, hw1, WS.mark]; refine q0 _ ?_; clear q0 Q0; simp only [go_sem])
   simp only [↓bO, go_sem, seval, look_I, look_B, upd_I, upd_B, hwl, hx1, hml, gM hst, frC, hw1, WS.mark]
   refine y1 _ ?_
   try clear y1 Y1
   refine AWp_cond rfl (fun hb29 => ?_) (fun hb29 => ?_)
   ·
    have hpq : p.1 = q := by (have h9 := hb29; simp at h9; omega)
    have hres : { W with cy := mset s.1 p.1 true } = markTo q (stk.reverse.map Prod.fst) W := by (have h9 := hs.1; rw [hm, markTo_snoc hst, if_pos hpq] at h9; exact h9)
    refine AWp_ret ?_
    try simp only [thenQ, blockQ, noGotoQ, retQ, aRes, tupOf, bS, bA]
    refine ⟨_, enumO 0 (cObs { S with F := S.F } ++ wObs ({ W with cy := mset s.1 p.1 true }) ++ [.row 135 3 (stk.map (frC K))]), ⟨((S.F, { W with cy := mset s.1 p.1 true }), ()), ?_, rfl, rfl⟩, .tup trivial, lUnd (by omega) _ _ K stk, ?_, ?_, by omega⟩
    · exact ⟨rfl, hres⟩
    ·
     exact Le.refl _
    · first | (refine ⟨0, rfl, rfl⟩) | (refine ⟨0, by simp only [cObs, wObs, List.cons_append, List.nil_append, enumO, List.drop_zero, List.drop_succ_cons, Nat.reduceAdd], rfl⟩)
   ·
    have hne : ¬ p.1 = q := by (have h9 := hb29; simp at h9; omega)
    refine AWp_skip ?_
    try simp only [thenQ, blockQ, noGotoQ]
    refine y0 _ ?_
    try clear y0 Y0
    refine AWp_region ?_
    iterate 2 (refine aops_chunk 1 fun Q0 q0 => ?_; simp only [↓bO, go_sem, seval, look_I, look_B, upd_I, upd_B, hwl, hx1, hml, gM hst, frC, hw1, WS.mark]; refine q0 _ ?_; clear q0 Q0; simp only [go_sem])
    simp only [↓bO, go_sem, seval, look_I, look_B, upd_I, upd_B, hwl, hx1, hml, gM hst, frC, hw1, WS.mark]
    refine ⟨(mset s.1 p.1 true, m), ⟨by (have h9 := hs.1; rw [hm, markTo_snoc hst, if_neg hne] at h9; exact h9), by simp only; omega⟩, (by simp only; omega), ?_⟩
    simp only [maskL, setsL, putsO, putO, mB, List.set_cons_zero, List.set_cons_succ, seval, hx1, hml, gM hst, frC, hw1, upd_B, WS.mark]
    exact Weak.mk (by simp only [go_sem, Le.refl, Le.any, Le.slNil, Int.natCast_add, Int.cast_ofNat_Int, Int.natCast_one]) (fun _ _ h => h) rfl rfl
  ·
   have hk : s.2 = 0 := by (have h9 := hb11; simp at h9; omega)
   have hres : { W with cy := s.1 } = markTo q (stk.reverse.map Prod.fst) W := by (have h9 := hs.1; rw [hk] at h9; exact h9)
   refine AWp_exit ?_
   simp only [thenQ, blockQ, noGotoQ, bA, Nat.reduceEqDiff, ↓reduceIte]
   try simp only [thenQ, blockQ, noGotoQ, retQ, aRes, tupOf, bS, bA]
   refine ⟨_, enumO 0 (cObs { S with F := S.F } ++ wObs ({ W with cy := s.1 }) ++ [.row 135 3 (stk.map (frC K))]), ⟨((S.F, { W with cy := s.1 }), ()), ?_, rfl, rfl⟩, .tup trivial, lUnd (by omega) _ _ K stk, ?_, ?_, by omega⟩
   · exact ⟨rfl, hres⟩
   ·
    exact Le.refl _
   · first | (refine ⟨0, rfl, rfl⟩) | (refine ⟨0, by simp only [cObs, wObs, List.cons_append, List.nil_append, enumO, List.drop_zero, List.drop_succ_cons, Nat.reduceAdd], rfl⟩)
end Go.Proofs.Ytjjjckjebkmnjaa
namespace Go.Proofs.Ytjjjckjebkmnjaa
open Go Go.RowKit
set_option maxRecDepth 100000
set_option maxHeartbeats 4000000
set_option linter.unusedSimpArgs false
set_option linter.unusedVariables false
attribute [local irreducible] aops dRun
def WBd (W : WS) : Prop := ∀ x, (0 ≤ W.dg x ∧ W.dg x ≤ most) ∧ 0 ≤ W.zg x ∧ W.zg x ≤ most
theorem endLoop_take {ch : List Nat} {r k p : Nat} {W : WS} (h : ch[k]? = some p) : endLoop r (ch.take (k + 1)) W = endStep r (endLoop r (ch.take k) W) p := by
  unfold endLoop
  rw [List.take_add_one, h, List.foldl_append]; rfl
theorem endLoop_bd {W : WS} (h : WBd W) (r : Nat) (ch : List Nat) : (0 ≤ (endLoop r ch W).1.1 ∧ (endLoop r ch W).1.1 ≤ most) ∧ (1 ≤ (endLoop r ch W).1.2 ∧ (endLoop r ch W).1.2 ≤ most) ∧ WBd (endLoop r ch W).2 := by
  obtain ⟨h1, h2, h3, h4, h5, h6, h7, h8⟩ := endFold_same r ch ((0, 1), { W with st := mset W.st r 2 })
  have key : ∀ (ch : List Nat) (a : Int × Int), (0 ≤ a.1 ∧ a.1 ≤ most) → (1 ≤ a.2 ∧ a.2 ≤ most) → (0 ≤ (ch.foldl (fun a p => (max a.1 (W.dg p), min most (a.2 + W.zg p))) a).1 ∧ (ch.foldl (fun a p => (max a.1 (W.dg p), min most (a.2 + W.zg p))) a).1 ≤ most) ∧
      1 ≤ (ch.foldl (fun a p => (max a.1 (W.dg p), min most (a.2 + W.zg p))) a).2 ∧ (ch.foldl (fun a p => (max a.1 (W.dg p), min most (a.2 + W.zg p))) a).2 ≤ most := by
    intro ch
    induction ch with
    | nil => intro a h1 h2; exact ⟨h1, h2⟩
    | cons p ch ih =>
      intro a h1 h2
      have h9 := h p
      simp only [most] at h1 h2 h9
      exact ih _ ⟨by simp only; omega, by simp only [most]; omega⟩ ⟨by simp only [most]; omega, by simp only [most]; omega⟩
  have hk := key ch (0, 1) (by simp [most]) (by simp [most])
  have e : (endLoop r ch W).1 = ch.foldl (fun a p => (max a.1 (W.dg p), min most (a.2 + W.zg p))) (0, 1) := h8
  rw [e]
  refine ⟨hk.1, hk.2, fun x => ?_⟩
  have hx := h x
  have e1 : (endLoop r ch W).2.dg x = W.dg x := by unfold WS.dg; rw [show (endLoop r ch W).2.de = W.de from h2]
  have e2 : (endLoop r ch W).2.zg x = W.zg x := by unfold WS.zg; rw [show (endLoop r ch W).2.sz = W.sz from h3]
  rw [e1, e2]; exact hx
theorem end_c (S : CS) (W : WS) (hb : WBd W) (K : Nat → List Nat) (r nx : Nat) (hK : (K r).length ≤ 8) : ACalls Try.prog 103 [.ptr 12 0, .agg (frC K (r, nx))] (enumO 0 (cObs (S) ++ wObs (W) ++ [])) 13 fun z os n => (∃ s : (FS × WS) × Unit, (s.1.1 = S.F ∧ s.1.2 = W.fin r (K r)) ∧ z = (fun s : Unit => .tup []) s.2 ∧ os = enumO 0 (cObs { S with F := s.1.1 } ++ wObs s.1.2 ++ [])) ∧ n = 13 := by
  refine ACalls.clean (C := fun zr zo => ∃ s : (FS × WS) × Unit, (s.1.1 = S.F ∧ s.1.2 = W.fin r (K r)) ∧ zr = (fun s : Unit => .tup []) s.2 ∧ zo = enumO 0 (cObs { S with F := s.1.1 } ++ wObs s.1.2 ++ [])) ?_
  refine ACalls_intro Try.func103 (by kernel_rfl) rfl (by rw [Try.ntmps103]; simp) (fun hm => ?_)
  simp only [Try.ntmps103, Try.results103, List.length_cons, List.length_nil, Nat.reduceAdd, Nat.reduceSub, List.replicate_succ, List.replicate_zero, List.cons_append, List.nil_append]
  simp only [cObs, wObs, List.cons_append, List.nil_append, enumO, Nat.reduceAdd]
  obtain ⟨ch, hch⟩ : ∃ ch, ch = K r := ⟨_, rfl⟩
  rw [← hch] at hK ⊢
  simp only [frC]
  rw [← hch]
  refine AWp_seqK fun Y0 y0 => ?_
  refine AWp_region ?_
  simp only [↓bO, go_sem, seval, look_I, look_B, upd_I, upd_B, frC]
  refine y0 _ ?_
  try clear y0 Y0
  refine AWp_seqK fun Y0 y0 => ?_
  refine AWp_drawK 6 mixed (by kernel_rfl) fun J0 j0 => ?_
  iterate 5 (simp only [go_sem]; refine dRun_chunk 1 fun Q0 q0 => ?_; simp only [↓dRun, ↓dOp, ↓bO, go_sem, seval, look_I, look_B, upd_I, upd_B, frC]; refine q0 _ ?_; clear q0 Q0)
  simp only [go_sem]
  simp only [↓dRun, ↓dOp, ↓bO, go_sem, seval, look_I, look_B, upd_I, upd_B, frC]
  refine j0 _ ?_
  clear j0 J0
  simp only [go_sem]
  simp only [↓bO, go_sem, seval, look_I, look_B, upd_I, upd_B, frC]
  refine y0 _ ?_
  try clear y0 Y0
  refine AWp_seqK fun Y0 y0 => ?_
  refine AWp_region ?_
  refine aops_chunk 1 fun Q0 q0 => ?_
  simp only [↓bO, go_sem, seval, look_I, look_B, upd_I, upd_B, frC]
  refine q0 _ ?_
  clear q0 Q0
  simp only [go_sem]
  simp only [↓bO, go_sem, seval, look_I, look_B, upd_I, upd_B, frC]
  refine y0 _ ?_
  try clear y0 Y0
  refine AWp_seqK fun Y0 y0 => ?_
  refine AWp_seqK fun Y1 y1 => ?_
  refine AWp_region ?_
  iterate 3 (refine aops_chunk 1 fun Q0 q0 => ?_; simp only [↓bO, go_sem, seval, look_I, look_B, upd_I, upd_B, frC]; refine q0 _ ?_; clear q0 Q0; simp only [go_sem])
  simp only [↓bO, go_sem, seval, look_I, look_B, upd_I, upd_B, frC]
  refine y1 _ ?_
  try clear y1 Y1
  refine AWp_block ?_
  refine AWp_loopM (σ := Nat) (mB 83 229433) (fun s => s ≤ ch.length) (fun s => [(4, .v (.int .i64 (endLoop r (ch.take s) W).1.1)), (5, .v (.int .i64 (endLoop r (ch.take s) W).1.2)), (17, .v (.int .i64 (s : Int)))]) (fun s => [(8, .map (mC cI (endLoop r (ch.take s) W).2.st)), (9, .map (mC cB (endLoop r (ch.take s) W).2.cy)), (10, .map (mC cI (endLoop r (ch.take s) W).2.de)), (11, .map (mC cI (endLoop r (ch.take s) W).2.sz))]) (fun s => ch.length - s) 0 (Nat.zero_le _) ?_ (fun s hs => ?_)
  ·
   simp only [maskL, setsL, putsO, putO, mB, List.set_cons_zero, List.set_cons_succ, seval, List.take_zero, endLoop, List.foldl_nil]
   exact Weak.mk (by simp only [go_sem, Le.refl, Le.any, Le.slNil, Int.natCast_add, Int.cast_ofNat_Int, Int.natCast_one]) (fun _ _ h => h) rfl rfl
  simp only [maskL, setsL, putsO, putO, mB, List.set_cons_zero, List.set_cons_succ, seval]
  refine AWp_seqK fun Y1 y1 => ?_
  refine AWp_region ?_
  simp only [↓bO, go_sem, seval, look_I, look_B, upd_I, upd_B, frC]
  refine y1 _ ?_
  try clear y1 Y1
  refine AWp_seqK fun Y1 y1 => ?_
  refine AWp_cond rfl (fun hb18 => ?_) (fun hb18 => ?_)
  ·
   have hk : s < ch.length := by simpa using hb18
   obtain ⟨p, hp⟩ : ∃ p, ch[s]? = some p := ⟨_, List.getElem?_eq_getElem hk⟩
   have hbd := endLoop_bd hb r (ch.take s)
   have hbp := hbd.2.2 p
   simp only [most, WS.dg, WS.zg] at hbd hbp
   have hw1 : IntKind.i64.wrap ((s : Int) + 1) = (s : Int) + 1 := wrap_in (by omega) (by omega)
   have hw2 : IntKind.i64.wrap ((endLoop r (ch.take s) W).1.2 + (mfind (endLoop r (ch.take s) W).2.sz (p : Int)).getD 0) = (endLoop r (ch.take s) W).1.2 + (mfind (endLoop r (ch.take s) W).2.sz (p : Int)).getD 0 := wrap_in (by omega) (by omega)
   refine AWp_skip ?_
   try simp only [thenQ, blockQ, noGotoQ]
   refine y1 _ ?_
   try clear y1 Y1
   refine AWp_seqK fun Y1 y1 => ?_
   refine AWp_block ?_
   refine AWp_seqK fun Y2 y2 => ?_
   refine AWp_region ?_
   iterate 3 (refine aops_chunk 1 fun Q0 q0 => ?_; simp only [↓bO, go_sem, seval, look_I, look_B, upd_I, upd_B, frC, hk, gM hp, partC, hw1, hw2, endStep, most, WS.dg, WS.zg, WS.cg, Int.natCast_add]; refine q0 _ ?_; clear q0 Q0; simp only [go_sem])
   simp only [↓bO, go_sem, seval, look_I, look_B, upd_I, upd_B, frC, hk, gM hp, partC, hw1, hw2, endStep, most, WS.dg, WS.zg, WS.cg, Int.natCast_add]
   refine y2 _ ?_
   try clear y2 Y2
   refine AWp_seqK fun Y2 y2 => ?_
   refine AAny_start [(12, 2, [.map 10]), (14, 0, [.ptr 0 0, .v (.int .i64 (p : Int))])] 10 rfl mixed (⟨⟨_, _, rfl, by simp, rfl, trivial, trivial⟩, ⟨_, _, rfl, by simp, rfl, trivial, trivial, trivial⟩, trivial⟩) rfl ?_
   dsimp only
   refine AAny_takeK 0 rfl (by kernel_rfl) (by kernel_rfl) (by kernel_rfl) (fun _ _ h => h) fun Q0 q0 => ?_
   simp only [↓bO, go_sem, seval, look_I, look_B, upd_I, upd_B, frC, hk, gM hp, partC, hw1, hw2, endStep, most, WS.dg, WS.zg, WS.cg, Int.natCast_add]
   refine q0 _ ?_
   clear q0 Q0
   refine AAny_takeK 1 rfl (by kernel_rfl) (by kernel_rfl) (by kernel_rfl) (fun _ _ h => h) fun Q0 q0 => ?_
   simp only [↓bO, go_sem, seval, look_I, look_B, upd_I, upd_B, frC, hk, gM hp, partC, hw1, hw2, endStep, most, WS.dg, WS.zg, WS.cg, Int.natCast_add]
   refine q0 _ ?_
   clear q0 Q0
   refine AAny_takeK 2 rfl (by kernel_rfl) (by kernel_rfl) (by kernel_rfl) (fun _ _ h => h) fun Q0 q0 => ?_
   simp only [↓bO, go_sem, seval, look_I, look_B, upd_I, upd_B, frC, hk, gM hp, partC, hw1, hw2, endStep, most, WS.dg, WS.zg, WS.cg, Int.natCast_add]
   refine q0 _ ?_
   clear q0 Q0
   refine AAny_takeK 3 rfl (by kernel_rfl) (by kernel_rfl) (by kernel_rfl) (fun _ _ h => h) fun Q0 q0 => ?_
   simp only [↓bO, go_sem, seval, look_I, look_B, upd_I, upd_B, frC, hk, gM hp, partC, hw1, hw2, endStep, most, WS.dg, WS.zg, WS.cg, Int.natCast_add]
   refine q0 _ ?_
   clear q0 Q0
   refine AAny_loadK 4 0 rfl rfl (by kernel_rfl) (by kernel_rfl) (by kernel_rfl) (fun _ _ h => h) fun Q0 q0 => ?_
   simp only [↓bO, go_sem, seval, look_I, look_B, upd_I, upd_B, frC, hk, gM hp, partC, hw1, hw2, endStep, most, WS.dg, WS.zg, WS.cg, Int.natCast_add]
   refine q0 _ ?_
   clear q0 Q0
   refine AAny_loadK 5 1 rfl rfl (by kernel_rfl) (by kernel_rfl) (by kernel_rfl) (fun _ _ h => h) fun Q0 q0 => ?_
   simp only [↓bO, go_sem, seval, look_I, look_B, upd_I, upd_B, frC, hk, gM hp, partC, hw1, hw2, endStep, most, WS.dg, WS.zg, WS.cg, Int.natCast_add]
   refine q0 _ ?_
   clear q0 Q0
   refine AAny_all1 (i := 6) (by kernel_rfl) ?_
   ·
    refine aAt_op rfl rfl fun Q0 q0 => ?_
    simp only [↓bO, go_sem, seval, look_I, look_B, upd_I, upd_B, frC, hk, gM hp, partC, hw1, hw2, endStep, most, WS.dg, WS.zg, WS.cg, Int.natCast_add]
    refine CCalls.atP (PId_c (S) (p : Int)) (i0 := 0) (i1 := 1) (i2 := 2) (i3 := 3) (i4 := 4) (i5 := 5) (i6 := 6) (i7 := 7) (by exact ⟨.agg ⟨.ptr rfl, .v _, trivial⟩, trivial⟩) (fun _ => by exact .v _) (by decide) (by simp) ⟨rfl, rfl, rfl, rfl, rfl, rfl, rfl, rfl, trivial⟩ (fun Z27 u27 hZ27 => ?_)
    try dsimp only at hZ27
    simp only [cObsAt, List.zip_cons_cons, List.zip_nil_left, List.zip_nil_right, putsO, putO, Nat.reduceEqDiff, ↓reduceIte]
    obtain rfl : S = Z27 := hZ27.symm
    try simp only [bS, bA]
    refine q0 _ ⟨⟨⟨_, _, rfl, by simp, rfl, trivial, trivial⟩, ⟨_, _, rfl, by simp, rfl, trivial, trivial, trivial⟩, trivial⟩, ?_⟩
    clear q0 Q0
    refine AAny_all1 (i := 7) (by kernel_rfl) ?_
    ·
     refine aAt_op rfl rfl fun Q0 q0 => ?_
     simp only [↓bO, go_sem, seval, look_I, look_B, upd_I, upd_B, frC, hk, gM hp, partC, hw1, hw2, endStep, most, WS.dg, WS.zg, WS.cg, Int.natCast_add]
     refine q0 _ ⟨⟨⟨_, _, rfl, by simp, rfl, trivial, trivial⟩, ⟨_, _, rfl, by simp, rfl, trivial, trivial, trivial⟩, trivial⟩, ?_⟩
     clear q0 Q0
     refine AAny_all1 (i := 8) (by kernel_rfl) ?_
     ·
      refine aAt_op rfl rfl fun Q0 q0 => ?_
      simp only [↓bO, go_sem, seval, look_I, look_B, upd_I, upd_B, frC, hk, gM hp, partC, hw1, hw2, endStep, most, WS.dg, WS.zg, WS.cg, Int.natCast_add]
      refine q0 _ ⟨⟨⟨_, _, rfl, by simp, rfl, trivial, trivial⟩, ⟨_, _, rfl, by simp, rfl, trivial, trivial, trivial⟩, trivial⟩, ?_⟩
      clear q0 Q0
      refine AAny_takeK 9 rfl (by kernel_rfl) (by kernel_rfl) (by kernel_rfl) (fun _ _ h => h) fun Q0 q0 => ?_
      simp only [↓bO, go_sem, seval, look_I, look_B, upd_I, upd_B, frC, hk, gM hp, partC, hw1, hw2, endStep, most, WS.dg, WS.zg, WS.cg, Int.natCast_add]
      refine q0 _ ?_
      clear q0 Q0
      refine AAny_done (by kernel_rfl) ?_
      simp only [thenQ, blockQ, noGotoQ]
      refine y2 _ ?_
      try clear y2 Y2
      refine AWp_seqK fun Y2 y2 => ?_
      refine AAny_start [(12, 3, [.map 11]), (14, 0, [.ptr 0 0, .v (.int .i64 (p : Int))])] 11 rfl mixed (⟨⟨_, _, rfl, by simp, rfl, trivial, trivial⟩, ⟨_, _, rfl, by simp, rfl, trivial, trivial, trivial⟩, trivial⟩) rfl ?_
      dsimp only
      refine AAny_takeK 0 rfl (by kernel_rfl) (by kernel_rfl) (by kernel_rfl) (fun _ _ h => h) fun Q0 q0 => ?_
      simp only [↓bO, go_sem, seval, look_I, look_B, upd_I, upd_B, frC, hk, gM hp, partC, hw1, hw2, endStep, most, WS.dg, WS.zg, WS.cg, Int.natCast_add]
      refine q0 _ ?_
      clear q0 Q0
      refine AAny_takeK 1 rfl (by kernel_rfl) (by kernel_rfl) (by kernel_rfl) (fun _ _ h => h) fun Q0 q0 => ?_
      simp only [↓bO, go_sem, seval, look_I, look_B, upd_I, upd_B, frC, hk, gM hp, partC, hw1, hw2, endStep, most, WS.dg, WS.zg, WS.cg, Int.natCast_add]
      refine q0 _ ?_
      clear q0 Q0
      refine AAny_takeK 2 rfl (by kernel_rfl) (by kernel_rfl) (by kernel_rfl) (fun _ _ h => h) fun Q0 q0 => ?_
      simp only [↓bO, go_sem, seval, look_I, look_B, upd_I, upd_B, frC, hk, gM hp, partC, hw1, hw2, endStep, most, WS.dg, WS.zg, WS.cg, Int.natCast_add]
      refine q0 _ ?_
      clear q0 Q0
      refine AAny_takeK 3 rfl (by kernel_rfl) (by kernel_rfl) (by kernel_rfl) (fun _ _ h => h) fun Q0 q0 => ?_
      simp only [↓bO, go_sem, seval, look_I, look_B, upd_I, upd_B, frC, hk, gM hp, partC, hw1, hw2, endStep, most, WS.dg, WS.zg, WS.cg, Int.natCast_add]
      refine q0 _ ?_
      clear q0 Q0
      refine AAny_loadK 4 0 rfl rfl (by kernel_rfl) (by kernel_rfl) (by kernel_rfl) (fun _ _ h => h) fun Q0 q0 => ?_
      simp only [↓bO, go_sem, seval, look_I, look_B, upd_I, upd_B, frC, hk, gM hp, partC, hw1, hw2, endStep, most, WS.dg, WS.zg, WS.cg, Int.natCast_add]
      refine q0 _ ?_
      clear q0 Q0
      refine AAny_loadK 5 1 rfl rfl (by kernel_rfl) (by kernel_rfl) (by kernel_rfl) (fun _ _ h => h) fun Q0 q0 => ?_
      simp only [↓bO, go_sem, seval, look_I, look_B, upd_I, upd_B, frC, hk, gM hp, partC, hw1, hw2, endStep, most, WS.dg, WS.zg, WS.cg, Int.natCast_add]
      refine q0 _ ?_
      clear q0 Q0
      refine AAny_all1 (i := 6) (by kernel_rfl) ?_
      ·
       refine aAt_op rfl rfl fun Q0 q0 => ?_
       simp only [↓bO, go_sem, seval, look_I, look_B, upd_I, upd_B, frC, hk, gM hp, partC, hw1, hw2, endStep, most, WS.dg, WS.zg, WS.cg, Int.natCast_add]
       refine CCalls.atP (PId_c (S) (p : Int)) (i0 := 0) (i1 := 1) (i2 := 2) (i3 := 3) (i4 := 4) (i5 := 5) (i6 := 6) (i7 := 7) (by exact ⟨.agg ⟨.ptr rfl, .v _, trivial⟩, trivial⟩) (fun _ => by exact .v _) (by decide) (by simp) ⟨rfl, rfl, rfl, rfl, rfl, rfl, rfl, rfl, trivial⟩ (fun Z36 u36 hZ36 => ?_)
       try dsimp only at hZ36
       simp only [cObsAt, List.zip_cons_cons, List.zip_nil_left, List.zip_nil_right, putsO, putO, Nat.reduceEqDiff, ↓reduceIte]
       obtain rfl : S = Z36 := hZ36.symm
       try simp only [bS, bA]
       refine q0 _ ⟨⟨⟨_, _, rfl, by simp, rfl, trivial, trivial⟩, ⟨_, _, rfl, by simp, rfl, trivial, trivial, trivial⟩, trivial⟩, ?_⟩
       clear q0 Q0
       refine AAny_all1 (i := 7) (by kernel_rfl) ?_
       ·
        refine aAt_op rfl rfl fun Q0 q0 => ?_
        simp only [↓bO, go_sem, seval, look_I, look_B, upd_I, upd_B, frC, hk, gM hp, partC, hw1, hw2, endStep, most, WS.dg, WS.zg, WS.cg, Int.natCast_add]
        refine q0 _ ⟨⟨⟨_, _, rfl, by simp, rfl, trivial, trivial⟩, ⟨_, _, rfl, by simp, rfl, trivial, trivial, trivial⟩, trivial⟩, ?_⟩
        clear q0 Q0
        refine AAny_all1 (i := 8) (by kernel_rfl) ?_
        ·
         refine aAt_op rfl rfl fun Q0 q0 => ?_
         simp only [↓bO, go_sem, seval, look_I, look_B, upd_I, upd_B, frC, hk, gM hp, partC, hw1, hw2, endStep, most, WS.dg, WS.zg, WS.cg, Int.natCast_add]
         refine q0 _ ⟨⟨⟨_, _, rfl, by simp, rfl, trivial, trivial⟩, ⟨_, _, rfl, by simp, rfl, trivial, trivial, trivial⟩, trivial⟩, ?_⟩
         clear q0 Q0
         refine AAny_all1 (i := 9) (by kernel_rfl) ?_
         ·
          refine aAt_op rfl rfl fun Q0 q0 => ?_
          simp only [↓bO, go_sem, seval, look_I, look_B, upd_I, upd_B, frC, hk, gM hp, partC, hw1, hw2, endStep, most, WS.dg, WS.zg, WS.cg, Int.natCast_add]
          refine q0 _ ⟨⟨⟨_, _, rfl, by simp, rfl, trivial, trivial⟩, ⟨_, _, rfl, by simp, rfl, trivial, trivial, trivial⟩, trivial⟩, ?_⟩
          clear q0 Q0
          refine AAny_takeK 10 rfl (by kernel_rfl) (by kernel_rfl) (by kernel_rfl) (fun _ _ h => h) fun Q0 q0 => ?_
          simp only [↓bO, go_sem, seval, look_I, look_B, upd_I, upd_B, frC, hk, gM hp, partC, hw1, hw2, endStep, most, WS.dg, WS.zg, WS.cg, Int.natCast_add]
          refine q0 _ ?_
          clear q0 Q0
          refine AAny_done (by kernel_rfl) ?_
          simp only [thenQ, blockQ, noGotoQ]
          refine y2 _ ?_
          try clear y2 Y2
          refine AAny_start [(12, 1, [.map 9]), (13, 0, [.v (.int .i64 (r : Int))]), (14, 0, [.ptr 0 0, .v (.int .i64 (p : Int))])] 23 rfl mixed (⟨⟨_, _, rfl, by simp, rfl, trivial, trivial⟩, ⟨_, _, rfl, by simp, rfl, trivial, trivial⟩, ⟨_, _, rfl, by simp, rfl, trivial, trivial, trivial⟩, trivial⟩) rfl ?_
          dsimp only
          refine AAny_takeK 0 rfl (by kernel_rfl) (by kernel_rfl) (by kernel_rfl) (fun _ _ h => h) fun Q0 q0 => ?_
          simp only [↓bO, go_sem, seval, look_I, look_B, upd_I, upd_B, frC, hk, gM hp, partC, hw1, hw2, endStep, most, WS.dg, WS.zg, WS.cg, Int.natCast_add]
          refine q0 _ ?_
          clear q0 Q0
          refine AAny_takeK 1 rfl (by kernel_rfl) (by kernel_rfl) (by kernel_rfl) (fun _ _ h => h) fun Q0 q0 => ?_
          simp only [↓bO, go_sem, seval, look_I, look_B, upd_I, upd_B, frC, hk, gM hp, partC, hw1, hw2, endStep, most, WS.dg, WS.zg, WS.cg, Int.natCast_add]
          refine q0 _ ?_
          clear q0 Q0
          refine AAny_takeK 2 rfl (by kernel_rfl) (by kernel_rfl) (by kernel_rfl) (fun _ _ h => h) fun Q0 q0 => ?_
          simp only [↓bO, go_sem, seval, look_I, look_B, upd_I, upd_B, frC, hk, gM hp, partC, hw1, hw2, endStep, most, WS.dg, WS.zg, WS.cg, Int.natCast_add]
          refine q0 _ ?_
          clear q0 Q0
          refine AAny_loadK 3 0 rfl rfl (by kernel_rfl) (by kernel_rfl) (by kernel_rfl) (fun _ _ h => h) fun Q0 q0 => ?_
          simp only [↓bO, go_sem, seval, look_I, look_B, upd_I, upd_B, frC, hk, gM hp, partC, hw1, hw2, endStep, most, WS.dg, WS.zg, WS.cg, Int.natCast_add]
          refine q0 _ ?_
          clear q0 Q0
          refine AAny_takeK 4 rfl (by kernel_rfl) (by kernel_rfl) (by kernel_rfl) (fun _ _ h => h) fun Q0 q0 => ?_
          simp only [↓bO, go_sem, seval, look_I, look_B, upd_I, upd_B, frC, hk, gM hp, partC, hw1, hw2, endStep, most, WS.dg, WS.zg, WS.cg, Int.natCast_add]
          refine q0 _ ?_
          clear q0 Q0
          refine AAny_loadK 5 1 rfl rfl (by kernel_rfl) (by kernel_rfl) (by kernel_rfl) (fun _ _ h => h) fun Q0 q0 => ?_
          simp only [↓bO, go_sem, seval, look_I, look_B, upd_I, upd_B, frC, hk, gM hp, partC, hw1, hw2, endStep, most, WS.dg, WS.zg, WS.cg, Int.natCast_add]
          refine q0 _ ?_
          clear q0 Q0
          refine AAny_takeK 6 rfl (by kernel_rfl) (by kernel_rfl) (by kernel_rfl) (fun _ _ h => h) fun Q0 q0 => ?_
          simp only [↓bO, go_sem, seval, look_I, look_B, upd_I, upd_B, frC, hk, gM hp, partC, hw1, hw2, endStep, most, WS.dg, WS.zg, WS.cg, Int.natCast_add]
          refine q0 _ ?_
          clear q0 Q0
          refine AAny_takeK 7 rfl (by kernel_rfl) (by kernel_rfl) (by kernel_rfl) (fun _ _ h => h) fun Q0 q0 => ?_
          simp only [↓bO, go_sem, seval, look_I, look_B, upd_I, upd_B, frC, hk, gM hp, partC, hw1, hw2, endStep, most, WS.dg, WS.zg, WS.cg, Int.natCast_add]
          refine q0 _ ?_
          clear q0 Q0
          refine AAny_takeK 8 rfl (by kernel_rfl) (by kernel_rfl) (by kernel_rfl) (fun _ _ h => h) fun Q0 q0 => ?_
          simp only [↓bO, go_sem, seval, look_I, look_B, upd_I, upd_B, frC, hk, gM hp, partC, hw1, hw2, endStep, most, WS.dg, WS.zg, WS.cg, Int.natCast_add]
          refine q0 _ ?_
          clear q0 Q0
          refine AAny_loadK 9 0 rfl rfl (by kernel_rfl) (by kernel_rfl) (by kernel_rfl) (fun _ _ h => h) fun Q0 q0 => ?_
          simp only [↓bO, go_sem, seval, look_I, look_B, upd_I, upd_B, frC, hk, gM hp, partC, hw1, hw2, endStep, most, WS.dg, WS.zg, WS.cg, Int.natCast_add]
          refine q0 _ ?_
          clear q0 Q0
          refine AAny_takeK 10 rfl (by kernel_rfl) (by kernel_rfl) (by kernel_rfl) (fun _ _ h => h) fun Q0 q0 => ?_
          simp only [↓bO, go_sem, seval, look_I, look_B, upd_I, upd_B, frC, hk, gM hp, partC, hw1, hw2, endStep, most, WS.dg, WS.zg, WS.cg, Int.natCast_add]
          refine q0 _ ?_
          clear q0 Q0
          refine AAny_loadK 11 1 rfl rfl (by kernel_rfl) (by kernel_rfl) (by kernel_rfl) (fun _ _ h => h) fun Q0 q0 => ?_
          simp only [↓bO, go_sem, seval, look_I, look_B, upd_I, upd_B, frC, hk, gM hp, partC, hw1, hw2, endStep, most, WS.dg, WS.zg, WS.cg, Int.natCast_add]
          refine q0 _ ?_
          clear q0 Q0
          refine AAny_all1 (i := 12) (by kernel_rfl) ?_
          ·
           refine aAt_op rfl rfl fun Q0 q0 => ?_
           simp only [↓bO, go_sem, seval, look_I, look_B, upd_I, upd_B, frC, hk, gM hp, partC, hw1, hw2, endStep, most, WS.dg, WS.zg, WS.cg, Int.natCast_add]
           refine q0 _ ⟨⟨⟨_, _, rfl, by simp, rfl, trivial, trivial⟩, ⟨_, _, rfl, by simp, rfl, trivial, trivial⟩, ⟨_, _, rfl, by simp, rfl, trivial, trivial, trivial⟩, trivial⟩, ?_⟩
           clear q0 Q0
           refine AAny_takeK 13 rfl (by kernel_rfl) (by kernel_rfl) (by kernel_rfl) (fun _ _ h => h) fun Q0 q0 => ?_
           simp only [↓bO, go_sem, seval, look_I, look_B, upd_I, upd_B, frC, hk, gM hp, partC, hw1, hw2, endStep, most, WS.dg, WS.zg, WS.cg, Int.natCast_add]
           refine q0 _ ?_
           clear q0 Q0
           refine AAny_case 53 rfl (fun hc53 => ?_) (fun hc53 => ?_)
           ·
            simp only [List.set_cons_zero, List.set_cons_succ]
            have hor : (WS.cg (endLoop r (ch.take s) W).2 r || WS.cg (endLoop r (ch.take s) W).2 p) = true := by (have h9 : WS.cg (endLoop r (ch.take s) W).2 r = true := hc53; rw [h9]; rfl)
            refine AAny_skipG 14 rfl (by kernel_rfl) (by kernel_rfl) (by kernel_rfl) (fun _ _ h => h) (by kernel_rfl) ?_
            simp only [bS, bA]
            refine AAny_skipG 15 rfl (by kernel_rfl) (by kernel_rfl) (by kernel_rfl) (fun _ _ h => h) (by kernel_rfl) ?_
            simp only [bS, bA]
            refine AAny_skipG 16 rfl (by kernel_rfl) (by kernel_rfl) (by kernel_rfl) (fun _ _ h => h) (by kernel_rfl) ?_
            simp only [bS, bA]
            refine AAny_skipG 17 rfl (by kernel_rfl) (by kernel_rfl) (by kernel_rfl) (fun _ _ h => h) (by kernel_rfl) ?_
            simp only [bS, bA]
            refine AAny_skipG 18 rfl (by kernel_rfl) (by kernel_rfl) (by kernel_rfl) (fun _ _ h => h) (by kernel_rfl) ?_
            simp only [bS, bA]
            refine AAny_skipG 19 rfl (by kernel_rfl) (by kernel_rfl) (by kernel_rfl) (fun _ _ h => h) (by kernel_rfl) ?_
            simp only [bS, bA]
            refine AAny_skipG 20 rfl (by kernel_rfl) (by kernel_rfl) (by kernel_rfl) (fun _ _ h => h) (by kernel_rfl) ?_
            simp only [bS, bA]
            refine AAny_all1 (i := 21) (by kernel_rfl) ?_
            ·
             refine aAt_op rfl rfl fun Q0 q0 => ?_
             simp only [↓bO, go_sem, seval, look_I, look_B, upd_I, upd_B, frC, hk, gM hp, partC, hw1, hw2, endStep, most, WS.dg, WS.zg, WS.cg, Int.natCast_add, hor]
             refine q0 _ ⟨⟨⟨_, _, rfl, by simp, rfl, trivial, trivial⟩, ⟨_, _, rfl, by simp, rfl, trivial, trivial⟩, ⟨_, _, rfl, by simp, rfl, trivial, trivial, trivial⟩, trivial⟩, ?_⟩
             clear q0 Q0
             refine AAny_all1 (i := 22) (by kernel_rfl) ?_
             ·
              refine aAt_op rfl rfl fun Q0 q0 => ?_
              simp only [↓bO, go_sem, seval, look_I, look_B, upd_I, upd_B, frC, hk, gM hp, partC, hw1, hw2, endStep, most, WS.dg, WS.zg, WS.cg, Int.natCast_add, hor]
              refine q0 _ ⟨⟨⟨_, _, rfl, by simp, rfl, trivial, trivial⟩, ⟨_, _, rfl, by simp, rfl, trivial, trivial⟩, ⟨_, _, rfl, by simp, rfl, trivial, trivial, trivial⟩, trivial⟩, ?_⟩
              clear q0 Q0
              refine AAny_done (by kernel_rfl) ?_
              simp only [thenQ, blockQ, noGotoQ]
              refine y1 _ ?_
              try clear y1 Y1
              refine AWp_region ?_
              refine aops_chunk 1 fun Q0 q0 => ?_
              simp only [↓bO, go_sem, seval, look_I, look_B, upd_I, upd_B, frC, hk, gM hp, partC, hw1, hw2, endStep, most, WS.dg, WS.zg, WS.cg, Int.natCast_add, hor]
              refine q0 _ ?_
              clear q0 Q0
              simp only [go_sem]
              simp only [↓bO, go_sem, seval, look_I, look_B, upd_I, upd_B, frC, hk, gM hp, partC, hw1, hw2, endStep, most, WS.dg, WS.zg, WS.cg, Int.natCast_add, hor]
              refine ⟨(s + 1), (by omega), by omega, ?_⟩
              simp only [maskL, setsL, putsO, putO, mB, List.set_cons_zero, List.set_cons_succ, seval, Int.natCast_add, Int.natCast_one, Int.cast_ofNat_Int]
              rw [endLoop_take hp]
              simp only [endStep, hor, WS.dg, WS.zg, most]
              refine Weak.sub ?_ ⟨rfl, rfl, rfl, rfl, rfl, rfl, rfl, rfl, rfl, rfl, rfl, rfl, rfl, rfl, trivial⟩ (by first | omega | (simp only; omega)) (by first | omega | (simp only; omega)) ?_ ?_
              · simp only [go_sem, Le.refl, Le.any]
              · repeat' first | exact trivial | exact .any _ | exact .ptr (by omega) | exact .own (by omega) | exact .v _ _ | exact Und.data (EqT.dataSl _) | exact Und.parts (by omega) _ | (refine ⟨?_, ?_⟩)
              · repeat' first | exact trivial | (with_reducible omega) | exact .any _ | exact .ptr (by omega) | exact .own (by omega) | exact .v _ _ | exact .map (by omega) | exact Und.oslG (by omega) | exact Und.rowI (nC_data _) | exact Und.rowI (iC_data _) | exact (fun p hp => .data (vC_data _ p hp)) | exact Und.parts (by omega) _ | exact (fun p hp => .data (mC_dataI _ p hp)) | exact (fun p hp => .data (mC_dataB _ p hp)) | (refine ⟨?_, ?_⟩)
           ·
            simp only [List.set_cons_zero, List.set_cons_succ]
            have hor : (WS.cg (endLoop r (ch.take s) W).2 r || WS.cg (endLoop r (ch.take s) W).2 p) = WS.cg (endLoop r (ch.take s) W).2 p := by (have h9 : WS.cg (endLoop r (ch.take s) W).2 r = false := hc53; rw [h9]; rfl)
            refine AAny_takeG 14 rfl (by kernel_rfl) (by kernel_rfl) (by kernel_rfl) (fun _ _ h => h) (by kernel_rfl) fun Q0 q0 => ?_
            simp only [↓bO, go_sem, seval, look_I, look_B, upd_I, upd_B, frC, hk, gM hp, partC, hw1, hw2, endStep, most, WS.dg, WS.zg, WS.cg, Int.natCast_add, hor]
            refine q0 _ ?_
            clear q0 Q0
            refine AAny_takeG 15 rfl (by kernel_rfl) (by kernel_rfl) (by kernel_rfl) (fun _ _ h => h) (by kernel_rfl) fun Q0 q0 => ?_
            simp only [↓bO, go_sem, seval, look_I, look_B, upd_I, upd_B, frC, hk, gM hp, partC, hw1, hw2, endStep, most, WS.dg, WS.zg, WS.cg, Int.natCast_add, hor]
            refine q0 _ ?_
            clear q0 Q0
            refine AAny_takeG 16 rfl (by kernel_rfl) (by kernel_rfl) (by kernel_rfl) (fun _ _ h => h) (by kernel_rfl) fun Q0 q0 => ?_
            simp only [↓bO, go_sem, seval, look_I, look_B, upd_I, upd_B, frC, hk, gM hp, partC, hw1, hw2, endStep, most, WS.dg, WS.zg, WS.cg, Int.natCast_add, hor]
            refine q0 _ ?_
            clear q0 Q0
            refine AAny_loadGK 17 0 rfl rfl (by kernel_rfl) (by kernel_rfl) (by kernel_rfl) (fun _ _ h => h) (by kernel_rfl) fun Q0 q0 => ?_
            simp only [↓bO, go_sem, seval, look_I, look_B, upd_I, upd_B, frC, hk, gM hp, partC, hw1, hw2, endStep, most, WS.dg, WS.zg, WS.cg, Int.natCast_add, hor]
            refine q0 _ ?_
            clear q0 Q0
            refine AAny_loadGK 18 2 rfl rfl (by kernel_rfl) (by kernel_rfl) (by kernel_rfl) (fun _ _ h => h) (by kernel_rfl) fun Q0 q0 => ?_
            simp only [↓bO, go_sem, seval, look_I, look_B, upd_I, upd_B, frC, hk, gM hp, partC, hw1, hw2, endStep, most, WS.dg, WS.zg, WS.cg, Int.natCast_add, hor]
            refine q0 _ ?_
            clear q0 Q0
            refine AAny_all1 (i := 19) (by kernel_rfl) ?_
            ·
             refine aAt_if rfl fun Q0 q0 => ?_
             simp only [↓bO, go_sem, seval, look_I, look_B, upd_I, upd_B, frC, hk, gM hp, partC, hw1, hw2, endStep, most, WS.dg, WS.zg, WS.cg, Int.natCast_add, hor]
             refine CCalls.atP (PId_c (S) (p : Int)) (i0 := 0) (i1 := 1) (i2 := 2) (i3 := 3) (i4 := 4) (i5 := 5) (i6 := 6) (i7 := 7) (by exact ⟨.agg ⟨.ptr rfl, .v _, trivial⟩, trivial⟩) (fun _ => by exact .v _) (by decide) (by simp) ⟨rfl, rfl, rfl, rfl, rfl, rfl, rfl, rfl, trivial⟩ (fun Z59 u59 hZ59 => ?_)
             try dsimp only at hZ59
             simp only [cObsAt, List.zip_cons_cons, List.zip_nil_left, List.zip_nil_right, putsO, putO, Nat.reduceEqDiff, ↓reduceIte]
             obtain rfl : S = Z59 := hZ59.symm
             try simp only [bS, bA]
             refine q0 _ ⟨⟨⟨_, _, rfl, by simp, rfl, trivial, trivial⟩, ⟨_, _, rfl, by simp, rfl, trivial, trivial⟩, ⟨_, _, rfl, by simp, rfl, trivial, trivial, trivial⟩, trivial⟩, ?_⟩
             clear q0 Q0
             refine AAny_all1 (i := 20) (by kernel_rfl) ?_
             ·
              refine aAt_if rfl fun Q0 q0 => ?_
              simp only [↓bO, go_sem, seval, look_I, look_B, upd_I, upd_B, frC, hk, gM hp, partC, hw1, hw2, endStep, most, WS.dg, WS.zg, WS.cg, Int.natCast_add, hor]
              refine q0 _ ⟨⟨⟨_, _, rfl, by simp, rfl, trivial, trivial⟩, ⟨_, _, rfl, by simp, rfl, trivial, trivial⟩, ⟨_, _, rfl, by simp, rfl, trivial, trivial, trivial⟩, trivial⟩, ?_⟩
              clear q0 Q0
              refine AAny_all1 (i := 21) (by kernel_rfl) ?_
              ·
               refine aAt_op rfl rfl fun Q0 q0 => ?_
               simp only [↓bO, go_sem, seval, look_I, look_B, upd_I, upd_B, frC, hk, gM hp, partC, hw1, hw2, endStep, most, WS.dg, WS.zg, WS.cg, Int.natCast_add, hor]
               refine q0 _ ⟨⟨⟨_, _, rfl, by simp, rfl, trivial, trivial⟩, ⟨_, _, rfl, by simp, rfl, trivial, trivial⟩, ⟨_, _, rfl, by simp, rfl, trivial, trivial, trivial⟩, trivial⟩, ?_⟩
               clear q0 Q0
               refine AAny_all1 (i := 22) (by kernel_rfl) ?_
               ·
                refine aAt_op rfl rfl fun Q0 q0 => ?_
                simp only [↓bO, go_sem, seval, look_I, look_B, upd_I, upd_B, frC, hk, gM hp, partC, hw1, hw2, endStep, most, WS.dg, WS.zg, WS.cg, Int.natCast_add, hor]
                refine q0 _ ⟨⟨⟨_, _, rfl, by simp, rfl, trivial, trivial⟩, ⟨_, _, rfl, by simp, rfl, trivial, trivial⟩, ⟨_, _, rfl, by simp, rfl, trivial, trivial, trivial⟩, trivial⟩, ?_⟩
                clear q0 Q0
                refine AAny_done (by kernel_rfl) ?_
                simp only [thenQ, blockQ, noGotoQ]
                refine y1 _ ?_
                try clear y1 Y1
                refine AWp_region ?_
                refine aops_chunk 1 fun Q0 q0 => ?_
                simp only [↓bO, go_sem, seval, look_I, look_B, upd_I, upd_B, frC, hk, gM hp, partC, hw1, hw2, endStep, most, WS.dg, WS.zg, WS.cg, Int.natCast_add, hor]
                refine q0 _ ?_
                clear q0 Q0
                simp only [go_sem]
                simp only [↓bO, go_sem, seval, look_I, look_B, upd_I, upd_B, frC, hk, gM hp, partC, hw1, hw2, endStep, most, WS.dg, WS.zg, WS.cg, Int.natCast_add, hor]
                refine ⟨(s + 1), (by omega), by omega, ?_⟩
                simp only [maskL, setsL, putsO, putO, mB, List.set_cons_zero, List.set_cons_succ, seval, Int.natCast_add, Int.natCast_one, Int.cast_ofNat_Int]
                rw [endLoop_take hp]
                simp only [endStep, hor, WS.dg, WS.zg, most]
                refine Weak.sub ?_ ⟨rfl, rfl, rfl, rfl, rfl, rfl, rfl, rfl, rfl, rfl, rfl, rfl, rfl, rfl, trivial⟩ (by first | omega | (simp only; omega)) (by first | omega | (simp only; omega)) ?_ ?_
                · simp only [go_sem, Le.refl, Le.any]
                · repeat' first | exact trivial | exact .any _ | exact .ptr (by omega) | exact .own (by omega) | exact .v _ _ | exact Und.data (EqT.dataSl _) | exact Und.parts (by omega) _ | (refine ⟨?_, ?_⟩)
                · repeat' first | exact trivial | (with_reducible omega) | exact .any _ | exact .ptr (by omega) | exact .own (by omega) | exact .v _ _ | exact .map (by omega) | exact Und.oslG (by omega) | exact Und.rowI (nC_data _) | exact Und.rowI (iC_data _) | exact (fun p hp => .data (vC_data _ p hp)) | exact Und.parts (by omega) _ | exact (fun p hp => .data (mC_dataI _ p hp)) | exact (fun p hp => .data (mC_dataB _ p hp)) | (refine ⟨?_, ?_⟩)
  ·
   have hk : s = ch.length := by simp at hb18; omega
   have hbd := endLoop_bd hb r ch
   simp only [most] at hbd
   have hw3 : IntKind.i64.wrap ((endLoop r ch W).1.1 + 1) = (endLoop r ch W).1.1 + 1 := wrap_in (by omega) (by omega)
   have hes : endLoop r (ch.take s) W = endLoop r ch W := by rw [hk, List.take_length]
   rw [hes]
   have hes1 : (endLoop r ch W).2.steps = W.steps := (endFold_same r ch _).2.2.2.1
   have hes2 : (endLoop r ch W).2.bad = W.bad := (endFold_same r ch _).2.2.2.2.1
   refine AWp_exit ?_
   simp only [thenQ, blockQ, noGotoQ, bA, Nat.reduceEqDiff, ↓reduceIte]
   refine y0 _ ?_
   try clear y0 Y0
   refine AAny_start [(12, 2, [.map 10]), (12, 3, [.map 11]), (13, 0, [.v (.int .i64 (r : Int))])] 22 rfl mixed (⟨⟨_, _, rfl, by simp, rfl, trivial, trivial⟩, ⟨_, _, rfl, by simp, rfl, trivial, trivial⟩, ⟨_, _, rfl, by simp, rfl, trivial, trivial⟩, trivial⟩) rfl ?_
   dsimp only
   refine AAny_takeK 0 rfl (by kernel_rfl) (by kernel_rfl) (by kernel_rfl) (fun _ _ h => h) fun Q0 q0 => ?_
   simp only [↓bO, go_sem, seval, look_I, look_B, upd_I, upd_B, frC, hw3]
   refine q0 _ ?_
   clear q0 Q0
   refine AAny_takeK 1 rfl (by kernel_rfl) (by kernel_rfl) (by kernel_rfl) (fun _ _ h => h) fun Q0 q0 => ?_
   simp only [↓bO, go_sem, seval, look_I, look_B, upd_I, upd_B, frC, hw3]
   refine q0 _ ?_
   clear q0 Q0
   refine AAny_takeK 2 rfl (by kernel_rfl) (by kernel_rfl) (by kernel_rfl) (fun _ _ h => h) fun Q0 q0 => ?_
   simp only [↓bO, go_sem, seval, look_I, look_B, upd_I, upd_B, frC, hw3]
   refine q0 _ ?_
   clear q0 Q0
   refine AAny_loadK 3 0 rfl rfl (by kernel_rfl) (by kernel_rfl) (by kernel_rfl) (fun _ _ h => h) fun Q0 q0 => ?_
   simp only [↓bO, go_sem, seval, look_I, look_B, upd_I, upd_B, frC, hw3]
   refine q0 _ ?_
   clear q0 Q0
   refine AAny_takeK 4 rfl (by kernel_rfl) (by kernel_rfl) (by kernel_rfl) (fun _ _ h => h) fun Q0 q0 => ?_
   simp only [↓bO, go_sem, seval, look_I, look_B, upd_I, upd_B, frC, hw3]
   refine q0 _ ?_
   clear q0 Q0
   refine AAny_loadK 5 2 rfl rfl (by kernel_rfl) (by kernel_rfl) (by kernel_rfl) (fun _ _ h => h) fun Q0 q0 => ?_
   simp only [↓bO, go_sem, seval, look_I, look_B, upd_I, upd_B, frC, hw3]
   refine q0 _ ?_
   clear q0 Q0
   refine AAny_takeK 6 rfl (by kernel_rfl) (by kernel_rfl) (by kernel_rfl) (fun _ _ h => h) fun Q0 q0 => ?_
   simp only [↓bO, go_sem, seval, look_I, look_B, upd_I, upd_B, frC, hw3]
   refine q0 _ ?_
   clear q0 Q0
   refine AAny_takeK 7 rfl (by kernel_rfl) (by kernel_rfl) (by kernel_rfl) (fun _ _ h => h) fun Q0 q0 => ?_
   simp only [↓bO, go_sem, seval, look_I, look_B, upd_I, upd_B, frC, hw3]
   refine q0 _ ?_
   clear q0 Q0
   refine AAny_takeK 8 rfl (by kernel_rfl) (by kernel_rfl) (by kernel_rfl) (fun _ _ h => h) fun Q0 q0 => ?_
   simp only [↓bO, go_sem, seval, look_I, look_B, upd_I, upd_B, frC, hw3]
   refine q0 _ ?_
   clear q0 Q0
   refine AAny_loadK 9 1 rfl rfl (by kernel_rfl) (by kernel_rfl) (by kernel_rfl) (fun _ _ h => h) fun Q0 q0 => ?_
   simp only [↓bO, go_sem, seval, look_I, look_B, upd_I, upd_B, frC, hw3]
   refine q0 _ ?_
   clear q0 Q0
   refine AAny_takeK 10 rfl (by kernel_rfl) (by kernel_rfl) (by kernel_rfl) (fun _ _ h => h) fun Q0 q0 => ?_
   simp only [↓bO, go_sem, seval, look_I, look_B, upd_I, upd_B, frC, hw3]
   refine q0 _ ?_
   clear q0 Q0
   refine AAny_loadK 11 2 rfl rfl (by kernel_rfl) (by kernel_rfl) (by kernel_rfl) (fun _ _ h => h) fun Q0 q0 => ?_
   simp only [↓bO, go_sem, seval, look_I, look_B, upd_I, upd_B, frC, hw3]
   refine q0 _ ?_
   clear q0 Q0
   refine AAny_takeK 12 rfl (by kernel_rfl) (by kernel_rfl) (by kernel_rfl) (fun _ _ h => h) fun Q0 q0 => ?_
   simp only [↓bO, go_sem, seval, look_I, look_B, upd_I, upd_B, frC, hw3]
   refine q0 _ ?_
   clear q0 Q0
   refine AAny_takeI 13 rfl rfl (by kernel_rfl) (by kernel_rfl) (by kernel_rfl) (fun _ _ h => h) fun Q0 q0 => ?_
   simp only [↓bO, go_sem, seval, aInt, look_I, look_B, upd_I, upd_B, frC, hw3]
   refine q0 _ ?_
   clear q0 Q0
   refine AAny_takeI 14 rfl rfl (by kernel_rfl) (by kernel_rfl) (by kernel_rfl) (fun _ _ h => h) fun Q0 q0 => ?_
   simp only [↓bO, go_sem, seval, aInt, look_I, look_B, upd_I, upd_B, frC, hw3]
   refine q0 _ ?_
   clear q0 Q0
   refine AAny_takeK 15 rfl (by kernel_rfl) (by kernel_rfl) (by kernel_rfl) (fun _ _ h => h) fun Q0 q0 => ?_
   simp only [↓bO, go_sem, seval, look_I, look_B, upd_I, upd_B, frC, hw3]
   refine q0 _ ?_
   clear q0 Q0
   refine AAny_entry (i := 16) (j := 17) (k := 18) rfl rfl rfl (by kernel_rfl) (by kernel_rfl) (by kernel_rfl) ⟨rfl, rfl, rfl⟩ ⟨rfl, rfl, rfl⟩ ⟨rfl, rfl, rfl⟩ ⟨by simp, by simp, by decide⟩ ⟨by simp, by simp, by simp, by simp⟩ rfl rfl rfl mz104 rfl ⟨⟨⟨_, _, rfl, by simp, rfl, trivial, trivial⟩, ⟨_, _, rfl, by simp, rfl, trivial, trivial⟩, ⟨_, _, rfl, by simp, rfl, trivial, trivial⟩, trivial⟩, ?_⟩
   simp only [↓bO, go_sem, seval, look_I, look_B, upd_I, upd_B, frC, hw3]
   refine AAny_entry (i := 19) (j := 20) (k := 21) rfl rfl rfl (by kernel_rfl) (by kernel_rfl) (by kernel_rfl) ⟨rfl, rfl, rfl⟩ ⟨rfl, rfl, rfl⟩ ⟨rfl, rfl, rfl⟩ ⟨by simp, by simp, by decide⟩ ⟨by simp, by simp, by simp, by simp⟩ rfl rfl rfl mz104 rfl ⟨⟨⟨_, _, rfl, by simp, rfl, trivial, trivial⟩, ⟨_, _, rfl, by simp, rfl, trivial, trivial⟩, ⟨_, _, rfl, by simp, rfl, trivial, trivial⟩, trivial⟩, ?_⟩
   simp only [↓bO, go_sem, seval, look_I, look_B, upd_I, upd_B, frC, hw3]
   refine AAny_done (by kernel_rfl) ?_
   simp only [thenQ, blockQ, noGotoQ]
   try simp only [thenQ, blockQ, noGotoQ, retQ, aRes, tupOf, bS, bA]
   refine ⟨_, enumO 0 (cObs { S with F := S.F } ++ wObs (W.fin r ch) ++ []), ⟨((S.F, W.fin r ch), ()), ?_, rfl, rfl⟩, .tup trivial, wUnd (by omega) _ _, ?_, ?_, by omega⟩
   · exact ⟨rfl, rfl⟩
   ·
    exact Le.refl _
   · first | (refine ⟨1, rfl, rfl⟩) | (refine ⟨0, rfl, rfl⟩) | (refine ⟨1, by simp only [cObs, wObs, List.cons_append, List.nil_append, enumO, List.drop_zero, List.drop_succ_cons, Nat.reduceAdd, WS.fin, hes1, hes2, most], rfl⟩) | (refine ⟨0, by simp only [cObs, wObs, List.cons_append, List.nil_append, enumO, List.drop_zero, List.drop_succ_cons, Nat.reduceAdd, WS.fin, hes1, hes2, most], rfl⟩)
end Go.Proofs.Ytjjjckjebkmnjaa
namespace Go.Proofs.Ytjjjckjebkmnjaa
open Go Go.RowKit
set_option maxRecDepth 100000
set_option maxHeartbeats 4000000
set_option linter.unusedSimpArgs false
set_option linter.unusedVariables false
attribute [local irreducible] aops dRun
theorem begin_w (S : CS) (hS : CyG S) (W : WS) (h0 : 0 ≤ W.steps) (h1 : W.steps ≤ 1000000000) (r : Nat) (hr : Rt S.F.up r r) : WCalls (σ := Unit) 101 [.ptr 12 0, .agg [.ptr 0 0, .v (.int .i64 (r : Int))]] S W (fun s => FSame S.F s.1.1 ∧ s.1.2 = W.begin r) (fun _ => .agg (frC (kids S) (r, 0))) := begin_c S hS W h0 h1 r hr
theorem end_w (S : CS) (W : WS) (hb : WBd W) (K : Nat → List Nat) (r nx : Nat) (hK : (K r).length ≤ 8) : WCalls (σ := Unit) 103 [.ptr 12 0, .agg (frC K (r, nx))] S W (fun s => s.1.1 = S.F ∧ s.1.2 = W.fin r (K r)) (fun _ => .tup []) := end_c S W hb K r nx hK
theorem loop_at (S : CS) (hS : FInv S.F) (W : WS) (K : Nat → List Nat) (stk : List (Nat × Nat)) (hl : stk.length ≤ 1048576) (n : Nat) (hn : stk.length = n) (q : Nat) {os' : Os} {nx' : Nat} (hlt : 15 ≤ nx') (hg : GetsO os' [0, 1, 2, 3, 4, 5, 6, 7, 8, 9, 10, 11, 12, 14] (cObs S ++ wObs W ++ [.row 135 3 (stk.map (frC K))])) {Q' : AV → Os → Nat → Prop}
    (hq : Q' (.tup []) (putsO os' ([0, 1, 2, 3, 4, 5, 6, 7, 8, 9, 10, 11, 12, 14].zip (cObs S ++ wObs (markTo q (stk.reverse.map Prod.fst) W) ++ [.row 135 3 (stk.map (frC K))]))) nx') : ACalls Try.prog 102 [.ptr 12 0, .own 14 n, .v (.int .i64 (q : Int))] os' nx' Q' := by
  subst hn
  have ren : ∀ (S : CS) (W : WS), RenOs (renOf [0, 1, 2, 3, 4, 5, 6, 7, 8, 9, 10, 11, 12, 14] nx') 0 (cObs S ++ wObs W ++ [.row 135 3 (stk.map (frC K))]) (cObs S ++ wObs W ++ [.row 135 3 (stk.map (frC K))]) := fun S W =>
    ⟨.cells ⟨.v _, .ptr rfl, .ptr rfl, .own rfl, .v _, trivial⟩, .cells ⟨.osl rfl (GNode.dataRows S.G.N), .map rfl, trivial⟩, .tok, .map (vC_data S.G.V), .cells ⟨.own rfl, .own rfl, .v _, .v _, trivial⟩, .row (nC_data _), .row (iC_data _), .row (iC_data _),
      .map (mC_dataI _), .map (mC_dataB _), .map (mC_dataI _), .map (mC_dataI _), .cells ⟨.map rfl, .map rfl, .map rfl, .map rfl, .v _, .v _, trivial⟩, .rowR rfl Iff.rfl (.frames K rfl stk), trivial⟩
  exact ACalls.atE (σ := (FS × WS) × Unit) (C := fun s => s.1.1 = S.F ∧ s.1.2 = markTo q (stk.reverse.map Prod.fst) W) (args := [.ptr 12 0, .own 13 stk.length, .v (.int .i64 (q : Int))]) (R := fun _ => .tup []) (R' := fun _ => .tup []) (obs := cObs S ++ wObs W ++ [.row 135 3 (stk.map (frC K))])
    (obs1 := fun s => cObs { S with F := s.1.1 } ++ wObs s.1.2 ++ [.row 135 3 (stk.map (frC K))]) (obs' := cObs S ++ wObs W ++ [.row 135 3 (stk.map (frC K))]) (obs1' := fun s => cObs { S with F := s.1.1 } ++ wObs s.1.2 ++ [.row 135 3 (stk.map (frC K))]) [0, 1, 2, 3, 4, 5, 6, 7, 8, 9, 10, 11, 12, 14]
    (loop_c S hS W K stk hl q) rfl (fun _ => rfl) (by decide) (by simp only [List.mem_cons, List.not_mem_nil, or_false]; omega) ⟨.ptr rfl, .own rfl, .v _, trivial⟩ (fun _ => .tup trivial) (ren S W) hg (fun s => ren _ s.1.2) (fun s hs => by
      obtain ⟨⟨F1, W1⟩, _⟩ := s
      obtain ⟨h1, h2⟩ := hs
      dsimp only at h1 h2
      subst h1; subst h2
      exact hq)
theorem CInv.fsame {S : CS} {F1 : FS} (h : CInv S) (k : FSame S.F F1) : CInv { S with F := F1 } := ⟨h.g, k.inv, k.len.trans h.fl, h.wl, h.wr, h.pl, h.pr⟩
theorem Frs.sumN {K : Nat → List Nat} {P : Nat → Prop} (h8 : ∀ u, (K u).length ≤ 8) : ∀ {a : Option Nat} {l : List (Nat × Nat)}, Frs K P a l → sumN l ≤ 8 * l.length
  | _, [], _ => by simp [Go.Proofs.Ytjjjckjebkmnjaa.sumN]
  | _, (u, nx) :: l, ⟨h1, _, _, h4⟩ => by
    have h2 := Frs.sumN h8 h4
    have h3 := h8 u
    simp only [Go.Proofs.Ytjjjckjebkmnjaa.sumN, List.length_cons]
    omega
theorem StI.small {K : Nat → List Nat} {W : WS} {stk : List (Nat × Nat)} {fo : List Nat} {c : Int} {N : Nat} (h : StI K W stk fo c) (hD : DfI K N W stk fo) (h8 : ∀ u, (K u).length ≤ 8) (hN : N ≤ 1048576) (hc : c ≤ 1) : W.steps ≤ 100000000 ∧ fo.length + stk.length ≤ N := by
  have h1 := nodup_le hD.nd hD.lt
  rw [List.length_append, List.length_map] at h1
  have h2 := Frs.sumN h8 hD.fr
  have h3 := sumK_le h8 fo
  have h4 := h.le
  omega
theorem WBd.fin {W : WS} (h : WBd W) (r : Nat) (ch : List Nat) : WBd (W.fin r ch) := by
  obtain ⟨h1, h2, h3⟩ := endLoop_bd h r ch
  intro x
  have hx := h3 x
  unfold WS.dg WS.zg at hx ⊢
  unfold WS.fin
  simp only
  rw [mfind_mset, mfind_mset]
  simp only [most] at *
  split
  · simp only [Option.getD_some]; omega
  · exact hx
structure WI (S : CS) (fo : List Nat) (r : Nat) (s : FS × WS × List (Nat × Nat) × List Nat) : Prop where
  f : FSame S.F s.1
  d : DfI (kids S) S.F.up.length s.2.1 s.2.2.1.reverse s.2.2.2
  t : StI (kids S) s.2.1 s.2.2.1.reverse s.2.2.2 0
  b : WBd s.2.1
  sub : ∀ x ∈ fo, x ∈ s.2.2.2
  r : r ∈ s.2.2.2 ∨ r ∈ s.2.2.1.map Prod.fst
theorem Und.rptr {n id k sz i off : Nat} (h : id < n) : Und n (.rptr id k sz i off) := fun E A w v hr => by
  cases hr with | rptr hv hl hc => exact .rptr (E := E.cut n) ⟨hv, h⟩ hl hc
theorem rev_snoc {α : Type} (l : List α) (x : α) : (l ++ [x]).reverse = x :: l.reverse := by simp
theorem frame_set {K : Nat → List Nat} (l : List (Nat × Nat)) (u nx : Nat) : ((l ++ [(u, nx)]).map (frC K)).set l.length [.v (.int .i64 (u : Int)), .sl 2 ((K u).map (partC 0)), .v (.int .i64 ((nx : Int) + 1))] = (l ++ [(u, nx + 1)]).map (frC K) := by
  simp only [List.map_append, List.map_cons, List.map_nil]
  rw [List.set_append_right _ _ (by simp)]
  simp [frC]
theorem frame_take {K : Nat → List Nat} (l : List (Nat × Nat)) (p : Nat × Nat) : ((l ++ [p]).map (frC K)).take l.length = l.map (frC K) := by
  rw [List.map_append, List.take_append_of_le_length (by simp), List.take_of_length_le (by simp)]
theorem snoc_last {α : Type} (l : List α) (x : α) : (l ++ [x])[l.length]? = some x := by simp
theorem ex_snoc {α : Type} : ∀ {l : List α}, 0 < l.length → ∃ a x, l = a ++ [x] := fun {l} h => by
  have hne : l ≠ [] := by intro e; rw [e] at h; simp at h
  exact ⟨l.dropLast, l.getLast hne, (List.dropLast_concat_getLast hne).symm⟩
theorem walk_c (S : CS) (hS : CyG S) (W : WS) (fo : List Nat) (hD : DfI (kids S) S.F.up.length W [] fo) (hst : StI (kids S) W [] fo 0) (hb : WBd W) (r : Nat) (hr : Rt S.F.up r r) : ACalls Try.prog 94 [.ptr 12 0, .agg [.ptr 0 0, .v (.int .i64 (r : Int))]] (enumO 0 (cObs (S) ++ wObs (W) ++ [])) 13 fun z os n => (∃ s : (FS × WS) × List Nat, (FSame S.F s.1.1 ∧ DfI (kids S) S.F.up.length s.1.2 [] s.2 ∧ StI (kids S) s.1.2 [] s.2 0 ∧ WBd s.1.2 ∧ r ∈ s.2 ∧ ∀ x ∈ fo, x ∈ s.2) ∧ z = (fun s : List Nat => .tup []) s.2 ∧ os = enumO 0 (cObs { S with F := s.1.1 } ++ wObs s.1.2 ++ [])) ∧ n = 13 := by
  refine ACalls.clean (C := fun zr zo => ∃ s : (FS × WS) × List Nat, (FSame S.F s.1.1 ∧ DfI (kids S) S.F.up.length s.1.2 [] s.2 ∧ StI (kids S) s.1.2 [] s.2 0 ∧ WBd s.1.2 ∧ r ∈ s.2 ∧ ∀ x ∈ fo, x ∈ s.2) ∧ zr = (fun s : List Nat => .tup []) s.2 ∧ zo = enumO 0 (cObs { S with F := s.1.1 } ++ wObs s.1.2 ++ [])) ?_
  refine ACalls_intro Try.func94 (by kernel_rfl) rfl (by rw [Try.ntmps94]; simp) (fun hm => ?_)
  simp only [Try.ntmps94, Try.results94, List.length_cons, List.length_nil, Nat.reduceAdd, Nat.reduceSub, List.replicate_succ, List.replicate_zero, List.cons_append, List.nil_append]
  simp only [cObs, wObs, List.cons_append, List.nil_append, enumO, Nat.reduceAdd]
  refine AWp_seqK fun Y0 y0 => ?_
  refine AWp_region ?_
  simp only [↓bO, go_sem, seval, look_I, look_B, upd_I, upd_B, frC]
  refine y0 _ ?_
  try clear y0 Y0
  refine AWp_scope ?_
  refine AWp_seqK fun Y0 y0 => ?_
  refine AWp_seqK fun Y1 y1 => ?_
  refine AAny_start [(12, 0, [.map 8]), (13, 0, [.ptr 0 0, .v (.int .i64 (r : Int))])] 8 rfl mixed (⟨⟨_, _, rfl, by simp, rfl, trivial, trivial⟩, ⟨_, _, rfl, by simp, rfl, trivial, trivial, trivial⟩, trivial⟩) rfl ?_
  dsimp only
  refine AAny_takeK 0 rfl (by kernel_rfl) (by kernel_rfl) (by kernel_rfl) (fun _ _ h => h) fun Q0 q0 => ?_
  simp only [↓bO, go_sem, seval, look_I, look_B, upd_I, upd_B, frC]
  refine q0 _ ?_
  clear q0 Q0
  refine AAny_takeK 1 rfl (by kernel_rfl) (by kernel_rfl) (by kernel_rfl) (fun _ _ h => h) fun Q0 q0 => ?_
  simp only [↓bO, go_sem, seval, look_I, look_B, upd_I, upd_B, frC]
  refine q0 _ ?_
  clear q0 Q0
  refine AAny_takeK 2 rfl (by kernel_rfl) (by kernel_rfl) (by kernel_rfl) (fun _ _ h => h) fun Q0 q0 => ?_
  simp only [↓bO, go_sem, seval, look_I, look_B, upd_I, upd_B, frC]
  refine q0 _ ?_
  clear q0 Q0
  refine AAny_loadK 3 0 rfl rfl (by kernel_rfl) (by kernel_rfl) (by kernel_rfl) (fun _ _ h => h) fun Q0 q0 => ?_
  simp only [↓bO, go_sem, seval, look_I, look_B, upd_I, upd_B, frC]
  refine q0 _ ?_
  clear q0 Q0
  refine AAny_loadK 4 1 rfl rfl (by kernel_rfl) (by kernel_rfl) (by kernel_rfl) (fun _ _ h => h) fun Q0 q0 => ?_
  simp only [↓bO, go_sem, seval, look_I, look_B, upd_I, upd_B, frC]
  refine q0 _ ?_
  clear q0 Q0
  refine AAny_all1 (i := 5) (by kernel_rfl) ?_
  ·
   refine aAt_op rfl rfl fun Q0 q0 => ?_
   simp only [↓bO, go_sem, seval, look_I, look_B, upd_I, upd_B, frC]
   refine CCalls.atP (PId_c (S) (r : Int)) (i0 := 0) (i1 := 1) (i2 := 2) (i3 := 3) (i4 := 4) (i5 := 5) (i6 := 6) (i7 := 7) (by exact ⟨.agg ⟨.ptr rfl, .v _, trivial⟩, trivial⟩) (fun _ => by exact .v _) (by decide) (by simp) ⟨rfl, rfl, rfl, rfl, rfl, rfl, rfl, rfl, trivial⟩ (fun Z1 u1 hZ1 => ?_)
   try dsimp only at hZ1
   simp only [cObsAt, List.zip_cons_cons, List.zip_nil_left, List.zip_nil_right, putsO, putO, Nat.reduceEqDiff, ↓reduceIte]
   obtain rfl : S = Z1 := hZ1.symm
   try simp only [bS, bA]
   refine q0 _ ⟨⟨⟨_, _, rfl, by simp, rfl, trivial, trivial⟩, ⟨_, _, rfl, by simp, rfl, trivial, trivial, trivial⟩, trivial⟩, ?_⟩
   clear q0 Q0
   refine AAny_all1 (i := 6) (by kernel_rfl) ?_
   ·
    refine aAt_op rfl rfl fun Q0 q0 => ?_
    simp only [↓bO, go_sem, seval, look_I, look_B, upd_I, upd_B, frC]
    refine q0 _ ⟨⟨⟨_, _, rfl, by simp, rfl, trivial, trivial⟩, ⟨_, _, rfl, by simp, rfl, trivial, trivial, trivial⟩, trivial⟩, ?_⟩
    clear q0 Q0
    refine AAny_all1 (i := 7) (by kernel_rfl) ?_
    ·
     refine aAt_op rfl rfl fun Q0 q0 => ?_
     simp only [↓bO, go_sem, seval, look_I, look_B, upd_I, upd_B, frC]
     refine q0 _ ⟨⟨⟨_, _, rfl, by simp, rfl, trivial, trivial⟩, ⟨_, _, rfl, by simp, rfl, trivial, trivial, trivial⟩, trivial⟩, ?_⟩
     clear q0 Q0
     refine AAny_done (by kernel_rfl) ?_
     simp only [thenQ, blockQ, noGotoQ]
     refine y1 _ ?_
     try clear y1 Y1
     refine AWp_cond rfl (fun hb14 => ?_) (fun hb14 => ?_)
     ·
      have hne : W.sg r ≠ 0 := by simpa [WS.sg, WS.tick] using hb14
      have hrf : r ∈ fo := hD.done hne (fun e => by have := hD.isOpen e; simp at this)
      refine AWp_ret ?_
      try simp only [thenQ, blockQ, noGotoQ, retQ, aRes, tupOf, bS, bA]
      refine ⟨_, enumO 0 (cObs { S with F := S.F } ++ wObs (W) ++ []), ⟨((S.F, W), fo), ?_, rfl, rfl⟩, .tup trivial, wUnd (by omega) _ _, ?_, ?_, by omega⟩
      · exact ⟨FSame.refl hS.c.f, hD, hst, hb, hrf, fun x h => h⟩
      ·
       exact Le.refl _
      · first | (refine ⟨1, rfl, rfl⟩) | (refine ⟨0, rfl, rfl⟩) | (refine ⟨1, by simp only [cObs, wObs, List.cons_append, List.nil_append, enumO, List.drop_zero, List.drop_succ_cons, Nat.reduceAdd], rfl⟩) | (refine ⟨0, by simp only [cObs, wObs, List.cons_append, List.nil_append, enumO, List.drop_zero, List.drop_succ_cons, Nat.reduceAdd], rfl⟩)
     ·
      have hz : W.sg r = 0 := by simpa [WS.sg, WS.tick] using hb14
      refine AWp_skip ?_
      try simp only [thenQ, blockQ, noGotoQ]
      refine y0 _ ?_
      try clear y0 Y0
      refine AWp_seqK fun Y0 y0 => ?_
      refine AWp_region ?_
      iterate 2 (refine aops_chunk 1 fun Q0 q0 => ?_; simp only [↓bO, go_sem, seval, look_I, look_B, upd_I, upd_B, frC]; refine q0 _ ?_; clear q0 Q0; simp only [go_sem])
      refine aops_chunk 1 fun Q0 q0 => ?_
      simp only [↓bO, go_sem, seval, look_I, look_B, upd_I, upd_B, frC]
      refine WCalls.at (begin_w S hS W hst.pos (by have := hst.small hD (kids_len hS) hS.nl (by omega); omega) r hr) (by exact ⟨.ptr rfl, .agg ⟨.ptr rfl, .v _, trivial⟩, trivial⟩) (fun _ => by exact .agg ⟨.v _, .parts rfl _, .v _, trivial⟩) (by omega) ⟨rfl, rfl, rfl, rfl, rfl, rfl, rfl, rfl, rfl, rfl, rfl, rfl, rfl, trivial⟩ (fun F1 W1 _ hX1 => ?_)
      dsimp only at hX1
      simp only [cObs, wObs, List.cons_append, List.nil_append, List.zip_cons_cons, List.zip_nil_left, List.zip_nil_right, putsO, putO, Nat.reduceEqDiff, ↓reduceIte]
      obtain ⟨hF1, rfl⟩ := hX1
      try simp only [bS, bA, thenQ, blockQ, noGotoQ]
      refine q0 _ ?_
      clear q0 Q0
      simp only [go_sem]
      refine aops_chunk 1 fun Q0 q0 => ?_
      simp only [↓bO, go_sem, seval, ↓bs1_1, ↓bs1_2, ↓bs1_3, ↓bs1_4, ↓bs1_5, ↓bs1_6, ↓bs1_7, ↓bs1_8, ↓bs1_9, ↓bs1_10, ↓bs1_11, ↓bs1_12, look_I, look_B, upd_I, upd_B, frC]
      refine q0 _ ?_
      clear q0 Q0
      simp only [go_sem]
      simp only [↓bO, go_sem, seval, look_I, look_B, upd_I, upd_B, frC]
      refine y0 _ ?_
      try clear y0 Y0
      refine AWp_seqK fun Y0 y0 => ?_
      refine AWp_label ?_
      try simp only [thenQ, blockQ, noGotoQ]
      refine y0 _ ?_
      try clear y0 Y0
      refine AWp_block ?_
      refine AWp_loopM (σ := FS × WS × List (Nat × Nat) × List Nat) (mB 103 17) (fun s => WI S fo r s) (fun s => [(4, .own 14 s.2.2.1.length)]) (fun s => [(4, .cells 115 [.own 5 s.1.up.length, .own 6 s.1.rank.length, .v (.int .i64 s.1.sets), .v (.int .i64 s.1.steps)]), (5, .row 3 1 (s.1.up.map nC)), (6, .row 3 1 (s.1.rank.map intC)), (8, .map (mC cI s.2.1.st)), (9, .map (mC cB s.2.1.cy)), (10, .map (mC cI s.2.1.de)), (11, .map (mC cI s.2.1.sz)), (12, .cells 108 [.map 8, .map 9, .map 10, .map 11, .v (.int .i64 s.2.1.steps), .v (.bool s.2.1.bad)]), (14, .row 135 3 (s.2.2.1.map (frC (kids S))))]) (fun s => 2 * (S.F.up.length - (s.2.2.2.length + s.2.2.1.length)) + s.2.2.1.length) (F1, W.begin r, [(r, 0)], fo) (⟨hF1, hD.begin hz hr.lt trivial, hst.start, hb, fun x h => h, .inr (by simp)⟩) ?_ (fun s hs => ?_)
      ·
       simp only [maskL, setsL, putsO, putO, mB, List.set_cons_zero, List.set_cons_succ, seval, bL, WS.begin]
       exact Weak.mk (by simp only [go_sem, Le.refl, Le.any, Le.slNil, Int.natCast_add, Int.cast_ofNat_Int, Int.natCast_one]) (fun _ _ h => h) rfl rfl
      simp only [maskL, setsL, putsO, putO, mB, List.set_cons_zero, List.set_cons_succ, seval]
      refine AWp_seqK fun Y0 y0 => ?_
      refine AWp_seqK fun Y1 y1 => ?_
      refine AWp_region ?_
      iterate 2 (refine aops_chunk 1 fun Q0 q0 => ?_; simp only [↓bO, go_sem, seval, look_I, look_B, upd_I, upd_B, frC]; refine q0 _ ?_; clear q0 Q0; simp only [go_sem])
      simp only [↓bO, go_sem, seval, look_I, look_B, upd_I, upd_B, frC]
      refine y1 _ ?_
      try clear y1 Y1
      refine AWp_cond rfl (fun hb21 => ?_) (fun hb21 => ?_)
      ·
       have hk0 : 0 < s.2.2.1.length := by simpa using hb21
       obtain ⟨s9, ⟨u, nx⟩, hstk⟩ := ex_snoc hk0
       obtain ⟨Fc, Wc, stk, fc⟩ := s
       dsimp only at hstk hb21 hk0
       subst hstk
       obtain ⟨hF, hDc, hTc, hBc, hsub, hrin⟩ := hs
       dsimp only at hF hDc hTc hBc hsub hrin
       rw [rev_snoc] at hDc hTc
       have hsz := (hTc.small hDc (kids_len hS) hS.nl (by omega)).2
       have hsp := (hTc.small hDc (kids_len hS) hS.nl (by omega)).1
       have hpp := hTc.pos
       simp only [List.length_cons, List.length_reverse] at hsz
       have hNl := hS.nl
       have hlen : (s9 ++ [(u, nx)]).length = s9.length + 1 := by simp
       have hwt : IntKind.i64.wrap (Wc.steps + 1) = Wc.steps + 1 := wrap_in (by omega) (by omega)
       have hwl : IntKind.i64.wrap ((s9.length : Int) + 1 - 1) = (s9.length : Int) := by rw [show ((s9.length : Int) + 1 - 1) = (s9.length : Int) from by omega]; exact wrap_in (by omega) (by omega)
       have hls : s9.length < s9.length + 1 := by omega
       have hb1 : (s9.length + 1 + 1) * 40 ≤ 140737488355328 := by omega
       have hb2 : s9.length + 1 + 1 ≤ maxLen := by simp only [maxLen]; omega
       have hls2 : (s9.length : Int) < (s9.length : Int) + 1 := by omega
       have hkF : kids { S with F := Fc } = kids S := funext fun z => kids_fsame hF z
       have hSc : CyG { S with F := Fc } := hS.fsame hF (hS.c.fsame hF)
       simp only [List.length_append, List.length_cons, List.length_nil, Nat.zero_add]
       refine AWp_skip ?_
       try simp only [thenQ, blockQ, noGotoQ]
       refine y0 _ ?_
       try clear y0 Y0
       refine AWp_block ?_
       refine AWp_seqK fun Y0 y0 => ?_
       refine AWp_region ?_
       iterate 7 (refine aops_chunk 1 fun Q0 q0 => ?_; simp only [↓bO, go_sem, seval, look_I, look_B, upd_I, upd_B, frC, hwt, hwl, hls, hls2, hb1, hb2, Int.natCast_add, List.length_append, frame_take]; refine q0 _ ?_; clear q0 Q0; simp only [go_sem])
       simp only [↓bO, go_sem, seval, look_I, look_B, upd_I, upd_B, frC, hwt, hwl, hls, hls2, hb1, hb2, Int.natCast_add, List.length_append, frame_take]
       refine y0 _ ?_
       try clear y0 Y0
       refine AWp_seqK fun Y0 y0 => ?_
       refine AWp_region ?_
       iterate 5 (refine aops_chunk 1 fun Q0 q0 => ?_; simp only [↓bO, go_sem, seval, look_I, look_B, upd_I, upd_B, frC, hwt, hwl, hls, hls2, hb1, hb2, Int.natCast_add, List.length_append, frame_take]; refine q0 _ ?_; clear q0 Q0; simp only [go_sem])
       simp only [↓bO, go_sem, seval, look_I, look_B, upd_I, upd_B, frC, hwt, hwl, hls, hls2, hb1, hb2, Int.natCast_add, List.length_append, frame_take]
       refine y0 _ ?_
       try clear y0 Y0
       refine AWp_seqK fun Y0 y0 => ?_
       refine AWp_block ?_
       refine AWp_loopM (σ := WS × Nat) (mB 103 49) (fun t => DfI (kids S) S.F.up.length t.1 ((u, t.2) :: s9.reverse) fc ∧ StI (kids S) t.1 ((u, t.2) :: s9.reverse) fc 1 ∧ WBd t.1) (fun t => []) (fun t => [(8, .map (mC cI t.1.st)), (9, .map (mC cB t.1.cy)), (10, .map (mC cI t.1.de)), (11, .map (mC cI t.1.sz)), (12, .cells 108 [.map 8, .map 9, .map 10, .map 11, .v (.int .i64 t.1.steps), .v (.bool t.1.bad)]), (14, .row 135 3 ((s9 ++ [(u, t.2)]).map (frC (kids S))))]) (fun t => (kids S u).length - t.2) (Wc.tick, nx) (⟨hDc.tick, hTc.tick, hBc⟩) ?_ (fun t ht => ?_)
       ·
        simp only [maskL, setsL, putsO, putO, mB, List.set_cons_zero, List.set_cons_succ, seval, WS.tick]
        exact Weak.mk (by simp only [go_sem, Le.refl, Le.any, Le.slNil, Int.natCast_add, Int.cast_ofNat_Int, Int.natCast_one]) (fun _ _ h => h) rfl rfl
       simp only [maskL, setsL, putsO, putO, mB, List.set_cons_zero, List.set_cons_succ, seval]
       have hlast := snoc_last s9 (u, t.2)
       have hDt := ht.1
       have hT2 := ht.2.1.part
       have hk8 := kids_len hS u
       have hft := hDt.fr.1
       have hst1 := (ht.2.1.small ht.1 (kids_len hS) hS.nl (by omega)).1
       have hst2 := ht.2.1.pos
       have hwt2 : IntKind.i64.wrap (t.1.steps + 1) = t.1.steps + 1 := wrap_in (by omega) (by omega)
       have hwn : IntKind.i64.wrap ((t.2 : Int) + 1) = (t.2 : Int) + 1 := wrap_in (by omega) (by omega)
       have hfs := frame_set (K := kids S) s9 u t.2
       have hsm2 : t.1.tick.steps ≤ 1000000000 := by (simp only [WS.tick]; omega)
       refine AWp_seqK fun Y1 y1 => ?_
       refine AWp_seqK fun Y2 y2 => ?_
       refine AWp_drawK 10 mixed (by kernel_rfl) fun J0 j0 => ?_
       iterate 9 (simp only [go_sem]; refine dRun_chunk 1 fun Q0 q0 => ?_; simp only [↓dRun, ↓dOp, ↓bO, go_sem, seval, look_I, look_B, upd_I, upd_B, frC, hwt, hwl, hls, hls2, hb1, hb2, Int.natCast_add, List.length_append, frame_take, gM hlast, hwt2, hwn, hfs, WS.tick]; refine q0 _ ?_; clear q0 Q0)
       simp only [go_sem]
       simp only [↓dRun, ↓dOp, ↓bO, go_sem, seval, look_I, look_B, upd_I, upd_B, frC, hwt, hwl, hls, hls2, hb1, hb2, Int.natCast_add, List.length_append, frame_take, gM hlast, hwt2, hwn, hfs, WS.tick]
       refine j0 _ ?_
       clear j0 J0
       simp only [bL, aops, thenQ, blockQ, noGotoQ]
       refine y2 _ ?_
       try clear y2 Y2
       refine AWp_cond rfl (fun hb43 => ?_) (fun hb43 => ?_)
       ·
        have hkj : t.2 < (kids S u).length := by simpa using hb43
        obtain ⟨q, hkq⟩ : ∃ q, (kids S u)[t.2]? = some q := ⟨_, List.getElem?_eq_getElem hkj⟩
        have hrq0 : Rt S.F.up q q := kids_root u q (List.mem_of_getElem? hkq)
        have hqN := hrq0.lt
        have hrq : Rt Fc.up q q := (hF.rt _ _).2 hrq0
        refine AWp_skip ?_
        try simp only [thenQ, blockQ, noGotoQ]
        refine y1 _ ?_
        try clear y1 Y1
        refine AWp_block ?_
        refine AWp_seqK fun Y1 y1 => ?_
        refine AWp_drawK 11 mixed (by kernel_rfl) fun J0 j0 => ?_
        iterate 10 (simp only [go_sem]; refine dRun_chunk 1 fun Q0 q0 => ?_; simp only [↓dRun, ↓dOp, ↓bO, go_sem, seval, look_I, look_B, upd_I, upd_B, frC, hwt, hwl, hls, hls2, hb1, hb2, Int.natCast_add, List.length_append, frame_take, gM hlast, hwt2, hwn, hfs, WS.tick, hkj, gM hkq, partC]; refine q0 _ ?_; clear q0 Q0)
        simp only [go_sem]
        simp only [↓dRun, ↓dOp, ↓bO, go_sem, seval, look_I, look_B, upd_I, upd_B, frC, hwt, hwl, hls, hls2, hb1, hb2, Int.natCast_add, List.length_append, frame_take, gM hlast, hwt2, hwn, hfs, WS.tick, hkj, gM hkq, partC]
        refine j0 _ ?_
        clear j0 J0
        simp only [go_sem]
        simp only [↓bO, go_sem, seval, look_I, look_B, upd_I, upd_B, frC, hwt, hwl, hls, hls2, hb1, hb2, Int.natCast_add, List.length_append, frame_take, gM hlast, hwt2, hwn, hfs, WS.tick, hkj, gM hkq, partC]
        refine y1 _ ?_
        try clear y1 Y1
        refine AWp_seqK fun Y1 y1 => ?_
        refine AWp_region ?_
        iterate 7 (refine aops_chunk 1 fun Q0 q0 => ?_; simp only [↓bO, go_sem, seval, look_I, look_B, upd_I, upd_B, frC, hwt, hwl, hls, hls2, hb1, hb2, Int.natCast_add, List.length_append, frame_take, gM hlast, hwt2, hwn, hfs, WS.tick, hkj, gM hkq, partC]; refine q0 _ ?_; clear q0 Q0; simp only [go_sem])
        simp only [↓bO, go_sem, seval, look_I, look_B, upd_I, upd_B, frC, hwt, hwl, hls, hls2, hb1, hb2, Int.natCast_add, List.length_append, frame_take, gM hlast, hwt2, hwn, hfs, WS.tick, hkj, gM hkq, partC]
        refine y1 _ ?_
        try clear y1 Y1
        refine AWp_seqK fun Y1 y1 => ?_
        refine AWp_region ?_
        iterate 7 (refine aops_chunk 1 fun Q0 q0 => ?_; simp only [↓bO, go_sem, seval, look_I, look_B, upd_I, upd_B, frC, hwt, hwl, hls, hls2, hb1, hb2, Int.natCast_add, List.length_append, frame_take, gM hlast, hwt2, hwn, hfs, WS.tick, hkj, gM hkq, partC]; refine q0 _ ?_; clear q0 Q0; simp only [go_sem])
        simp only [↓bO, go_sem, seval, look_I, look_B, upd_I, upd_B, frC, hwt, hwl, hls, hls2, hb1, hb2, Int.natCast_add, List.length_append, frame_take, gM hlast, hwt2, hwn, hfs, WS.tick, hkj, gM hkq, partC]
        refine y1 _ ?_
        try clear y1 Y1
        refine AWp_seqK fun Y1 y1 => ?_
        refine AAny_start [(12, 0, [.map 8]), (15, 0, [.ptr 0 0, .v (.int .i64 (q : Int))])] 7 rfl mixed (⟨⟨_, _, rfl, by simp, rfl, trivial, trivial⟩, ⟨_, _, rfl, by simp, rfl, trivial, trivial, trivial⟩, trivial⟩) rfl ?_
        dsimp only
        refine AAny_takeK 0 rfl (by kernel_rfl) (by kernel_rfl) (by kernel_rfl) (fun _ _ h => h) fun Q0 q0 => ?_
        simp only [↓bO, go_sem, seval, look_I, look_B, upd_I, upd_B, frC, hwt, hwl, hls, hls2, hb1, hb2, Int.natCast_add, List.length_append, frame_take, gM hlast, hwt2, hwn, hfs, WS.tick, hkj, gM hkq, partC]
        refine q0 _ ?_
        clear q0 Q0
        refine AAny_takeK 1 rfl (by kernel_rfl) (by kernel_rfl) (by kernel_rfl) (fun _ _ h => h) fun Q0 q0 => ?_
        simp only [↓bO, go_sem, seval, look_I, look_B, upd_I, upd_B, frC, hwt, hwl, hls, hls2, hb1, hb2, Int.natCast_add, List.length_append, frame_take, gM hlast, hwt2, hwn, hfs, WS.tick, hkj, gM hkq, partC]
        refine q0 _ ?_
        clear q0 Q0
        refine AAny_takeK 2 rfl (by kernel_rfl) (by kernel_rfl) (by kernel_rfl) (fun _ _ h => h) fun Q0 q0 => ?_
        simp only [↓bO, go_sem, seval, look_I, look_B, upd_I, upd_B, frC, hwt, hwl, hls, hls2, hb1, hb2, Int.natCast_add, List.length_append, frame_take, gM hlast, hwt2, hwn, hfs, WS.tick, hkj, gM hkq, partC]
        refine q0 _ ?_
        clear q0 Q0
        refine AAny_loadK 3 0 rfl rfl (by kernel_rfl) (by kernel_rfl) (by kernel_rfl) (fun _ _ h => h) fun Q0 q0 => ?_
        simp only [↓bO, go_sem, seval, look_I, look_B, upd_I, upd_B, frC, hwt, hwl, hls, hls2, hb1, hb2, Int.natCast_add, List.length_append, frame_take, gM hlast, hwt2, hwn, hfs, WS.tick, hkj, gM hkq, partC]
        refine q0 _ ?_
        clear q0 Q0
        refine AAny_loadK 4 1 rfl rfl (by kernel_rfl) (by kernel_rfl) (by kernel_rfl) (fun _ _ h => h) fun Q0 q0 => ?_
        simp only [↓bO, go_sem, seval, look_I, look_B, upd_I, upd_B, frC, hwt, hwl, hls, hls2, hb1, hb2, Int.natCast_add, List.length_append, frame_take, gM hlast, hwt2, hwn, hfs, WS.tick, hkj, gM hkq, partC]
        refine q0 _ ?_
        clear q0 Q0
        refine AAny_all1 (i := 5) (by kernel_rfl) ?_
        ·
         refine aAt_op rfl rfl fun Q0 q0 => ?_
         simp only [↓bO, go_sem, seval, look_I, look_B, upd_I, upd_B, frC, hwt, hwl, hls, hls2, hb1, hb2, Int.natCast_add, List.length_append, frame_take, gM hlast, hwt2, hwn, hfs, WS.tick, hkj, gM hkq, partC]
         refine CCalls.atP (PId_c ({ S with F := Fc }) (q : Int)) (i0 := 0) (i1 := 1) (i2 := 2) (i3 := 3) (i4 := 4) (i5 := 5) (i6 := 6) (i7 := 7) (by exact ⟨.agg ⟨.ptr rfl, .v _, trivial⟩, trivial⟩) (fun _ => by exact .v _) (by decide) (by simp) ⟨rfl, rfl, rfl, rfl, rfl, rfl, rfl, rfl, trivial⟩ (fun Z73 u73 hZ73 => ?_)
         try dsimp only at hZ73
         simp only [cObsAt, List.zip_cons_cons, List.zip_nil_left, List.zip_nil_right, putsO, putO, Nat.reduceEqDiff, ↓reduceIte]
         obtain rfl : { S with F := Fc } = Z73 := hZ73.symm
         try simp only [bS, bA]
         refine q0 _ ⟨⟨⟨_, _, rfl, by simp, rfl, trivial, trivial⟩, ⟨_, _, rfl, by simp, rfl, trivial, trivial, trivial⟩, trivial⟩, ?_⟩
         clear q0 Q0
         refine AAny_all1 (i := 6) (by kernel_rfl) ?_
         ·
          refine aAt_op rfl rfl fun Q0 q0 => ?_
          simp only [↓bO, go_sem, seval, look_I, look_B, upd_I, upd_B, frC, hwt, hwl, hls, hls2, hb1, hb2, Int.natCast_add, List.length_append, frame_take, gM hlast, hwt2, hwn, hfs, WS.tick, hkj, gM hkq, partC]
          refine q0 _ ⟨⟨⟨_, _, rfl, by simp, rfl, trivial, trivial⟩, ⟨_, _, rfl, by simp, rfl, trivial, trivial, trivial⟩, trivial⟩, ?_⟩
          clear q0 Q0
          refine AAny_done (by kernel_rfl) ?_
          simp only [thenQ, blockQ, noGotoQ]
          refine y1 _ ?_
          try clear y1 Y1
          refine AWp_block ?_
          refine AWp_seqK fun Y1 y1 => ?_
          refine AWp_region ?_
          refine aops_chunk 1 fun Q0 q0 => ?_
          simp only [↓bO, go_sem, seval, look_I, look_B, upd_I, upd_B, frC, hwt, hwl, hls, hls2, hb1, hb2, Int.natCast_add, List.length_append, frame_take, gM hlast, hwt2, hwn, hfs, WS.tick, hkj, gM hkq, partC]
          refine q0 _ ?_
          clear q0 Q0
          simp only [go_sem]
          simp only [↓bO, go_sem, seval, look_I, look_B, upd_I, upd_B, frC, hwt, hwl, hls, hls2, hb1, hb2, Int.natCast_add, List.length_append, frame_take, gM hlast, hwt2, hwn, hfs, WS.tick, hkj, gM hkq, partC]
          refine y1 _ ?_
          try clear y1 Y1
          refine AWp_cond rfl (fun hb75 => ?_) (fun hb75 => ?_)
          ·
           have hq0 : t.1.tick.sg q = 0 := by simpa [WS.sg, WS.tick] using hb75
           have hDp := hDt.tick.push hkq hq0 hqN
           have hTp := hT2.push (q := q)
           refine AWp_seqK fun Y1 y1 => ?_
           refine AWp_region ?_
           iterate 3 (refine aops_chunk 1 fun Q0 q0 => ?_; simp only [↓bO, go_sem, seval, look_I, look_B, upd_I, upd_B, frC, hwt, hwl, hls, hls2, hb1, hb2, Int.natCast_add, List.length_append, frame_take, gM hlast, hwt2, hwn, hfs, WS.tick, hkj, gM hkq, partC]; refine q0 _ ?_; clear q0 Q0; simp only [go_sem])
           refine aops_chunk 1 fun Q0 q0 => ?_
           simp only [↓bO, go_sem, seval, look_I, look_B, upd_I, upd_B, frC, hwt, hwl, hls, hls2, hb1, hb2, Int.natCast_add, List.length_append, frame_take, gM hlast, hwt2, hwn, hfs, WS.tick, hkj, gM hkq, partC]
           refine WCalls.at (begin_w { S with F := Fc } hSc t.1.tick (hT2.pos) (by have := hsm2; omega) q hrq) (by exact ⟨.ptr rfl, .agg ⟨.ptr rfl, .v _, trivial⟩, trivial⟩) (fun _ => by exact .agg ⟨.v _, .parts rfl _, .v _, trivial⟩) (by omega) ⟨rfl, rfl, rfl, rfl, rfl, rfl, rfl, rfl, rfl, rfl, rfl, rfl, rfl, trivial⟩ (fun F5 W5 _ hX5 => ?_)
           dsimp only at hX5
           simp only [cObs, wObs, List.cons_append, List.nil_append, List.zip_cons_cons, List.zip_nil_left, List.zip_nil_right, putsO, putO, Nat.reduceEqDiff, ↓reduceIte]
           obtain ⟨hF5, rfl⟩ := hX5
           rw [hkF]
           have hfp : ((s9 ++ [(u, t.2 + 1)]).map (frC (kids S))) ++ [[.v (.int .i64 (q : Int)), .sl 2 ((kids S q).map (partC 0)), .v (.int .i64 0)]] = (s9 ++ [(u, t.2 + 1)] ++ [(q, 0)]).map (frC (kids S)) := by simp [frC]
           try simp only [bS, bA, thenQ, blockQ, noGotoQ]
           refine q0 _ ?_
           clear q0 Q0
           simp only [go_sem]
           refine aops_chunk 1 fun Q0 q0 => ?_
           simp only [↓bO, go_sem, seval, ↓bs1_1, ↓bs1_2, ↓bs1_3, ↓bs1_4, ↓bs1_5, ↓bs1_6, ↓bs1_7, ↓bs1_8, ↓bs1_9, ↓bs1_10, ↓bs1_11, ↓bs1_12, look_I, look_B, upd_I, upd_B, frC, hwt, hwl, hls, hls2, hb1, hb2, Int.natCast_add, List.length_append, frame_take, gM hlast, hwt2, hwn, hfs, WS.tick, hkj, gM hkq, partC]
           refine q0 _ ?_
           clear q0 Q0
           simp only [go_sem]
           refine aops_chunk 1 fun Q0 q0 => ?_
           simp only [↓bO, go_sem, seval, look_I, look_B, upd_I, upd_B, frC, hwt, hwl, hls, hls2, hb1, hb2, Int.natCast_add, List.length_append, frame_take, gM hlast, hwt2, hwn, hfs, WS.tick, hkj, gM hkq, partC]
           refine q0 _ ?_
           clear q0 Q0
           simp only [go_sem]
           simp only [↓bO, go_sem, seval, look_I, look_B, upd_I, upd_B, frC, hwt, hwl, hls, hls2, hb1, hb2, Int.natCast_add, List.length_append, frame_take, gM hlast, hwt2, hwn, hfs, WS.tick, hkj, gM hkq, partC]
           refine y1 _ ?_
           try clear y1 Y1
           refine AWp_exit ?_
           simp only [thenQ, blockQ, noGotoQ, bA, Nat.reduceEqDiff, ↓reduceIte]
           refine ⟨(F5, t.1.tick.begin q, s9 ++ [(u, t.2 + 1)] ++ [(q, 0)], fc), ⟨hF.trans hF5, by (dsimp only; rw [rev_snoc, rev_snoc]; exact hDp), by (dsimp only; rw [rev_snoc, rev_snoc]; exact hTp), ht.2.2, hsub, by (dsimp only; rcases hrin with h9 | h9; exact .inl h9; exact .inr (by simp at h9 ⊢; (rcases h9 with h8 | h8; exact .inl h8; exact .inr (.inl h8))))⟩, (by have := (hTp.small hDp (kids_len hS) hS.nl (by omega)).2; simp only [List.length_append, List.length_cons, List.length_nil, List.length_reverse] at this ⊢; omega), ?_⟩
           simp only [maskL, setsL, putsO, putO, mB, List.set_cons_zero, List.set_cons_succ, seval, Int.natCast_add, Int.natCast_one, Int.cast_ofNat_Int]
           try simp only [hwl]
           try simp only [hfp]
           refine Weak.sub ?_ ⟨rfl, rfl, rfl, rfl, rfl, rfl, rfl, rfl, rfl, rfl, rfl, rfl, rfl, rfl, rfl, trivial⟩ (by first | omega | (simp only; omega)) (by first | omega | (simp only; omega)) ?_ ?_
           · simp only [go_sem, List.length_append, List.length_cons, List.length_nil, Nat.zero_add, Le.refl, Le.any]
           · repeat' first | exact trivial | exact .any _ | exact .ptr (by omega) | exact .own (by omega) | exact .v _ _ | exact Und.data (EqT.dataSl _) | exact Und.parts (by omega) _ | exact .rptr (by omega) | (refine ⟨?_, ?_⟩)
           · repeat' first | exact trivial | (with_reducible omega) | exact .any _ | exact .ptr (by omega) | exact .own (by omega) | exact .v _ _ | exact .map (by omega) | exact Und.oslG (by omega) | exact Und.rowI (nC_data _) | exact Und.rowI (iC_data _) | exact (fun p hp => .data (vC_data _ p hp)) | exact Und.parts (by omega) _ | exact Und.frames (kids S) (by omega) _ | exact (fun p hp => .data (mC_dataI _ p hp)) | exact (fun p hp => .data (mC_dataB _ p hp)) | (refine ⟨?_, ?_⟩)
          ·
           have hq0 : ¬ t.1.tick.sg q = 0 := by simpa [WS.sg, WS.tick] using hb75
           refine AWp_seqK fun Y1 y1 => ?_
           refine AWp_region ?_
           refine aops_chunk 1 fun Q0 q0 => ?_
           simp only [↓bO, go_sem, seval, look_I, look_B, upd_I, upd_B, frC, hwt, hwl, hls, hls2, hb1, hb2, Int.natCast_add, List.length_append, frame_take, gM hlast, hwt2, hwn, hfs, WS.tick, hkj, gM hkq, partC]
           refine q0 _ ?_
           clear q0 Q0
           simp only [go_sem]
           simp only [↓bO, go_sem, seval, look_I, look_B, upd_I, upd_B, frC, hwt, hwl, hls, hls2, hb1, hb2, Int.natCast_add, List.length_append, frame_take, gM hlast, hwt2, hwn, hfs, WS.tick, hkj, gM hkq, partC]
           refine y1 _ ?_
           try clear y1 Y1
           refine AWp_cond rfl (fun hb83 => ?_) (fun hb83 => ?_)
           ·
            have hq1 : t.1.tick.sg q = 1 := by simpa [WS.sg, WS.tick] using hb83
            have hDb := hDt.tick.back hkq hq1
            have hTb := hT2.back q (((u, t.2) :: s9.reverse).map Prod.fst)
            have hlb : (s9 ++ [(u, t.2 + 1)]).reverse.map Prod.fst = ((u, t.2) :: s9.reverse).map Prod.fst := by rw [rev_snoc]; rfl
            refine AWp_seqK fun Y1 y1 => ?_
            refine AWp_region ?_
            iterate 3 (refine aops_chunk 1 fun Q0 q0 => ?_; simp only [↓bO, go_sem, seval, look_I, look_B, upd_I, upd_B, frC, hwt, hwl, hls, hls2, hb1, hb2, Int.natCast_add, List.length_append, frame_take, gM hlast, hwt2, hwn, hfs, WS.tick, hkj, gM hkq, partC]; refine q0 _ ?_; clear q0 Q0; simp only [go_sem])
            simp only [↓bO, go_sem, seval, look_I, look_B, upd_I, upd_B, frC, hwt, hwl, hls, hls2, hb1, hb2, Int.natCast_add, List.length_append, frame_take, gM hlast, hwt2, hwn, hfs, WS.tick, hkj, gM hkq, partC]
            refine y1 _ ?_
            try clear y1 Y1
            refine AWp_region ?_
            iterate 3 (refine aops_chunk 1 fun Q0 q0 => ?_; simp only [↓bO, go_sem, seval, look_I, look_B, upd_I, upd_B, frC, hwt, hwl, hls, hls2, hb1, hb2, Int.natCast_add, List.length_append, frame_take, gM hlast, hwt2, hwn, hfs, WS.tick, hkj, gM hkq, partC]; refine q0 _ ?_; clear q0 Q0; simp only [go_sem])
            refine aops_chunk 1 fun Q0 q0 => ?_
            simp only [↓bO, go_sem, seval, look_I, look_B, upd_I, upd_B, frC, hwt, hwl, hls, hls2, hb1, hb2, Int.natCast_add, List.length_append, frame_take, gM hlast, hwt2, hwn, hfs, WS.tick, hkj, gM hkq, partC]
            refine CCalls.atP (PId_c ({ S with F := Fc }) (q : Int)) (i0 := 0) (i1 := 1) (i2 := 2) (i3 := 3) (i4 := 4) (i5 := 5) (i6 := 6) (i7 := 7) (by exact ⟨.agg ⟨.ptr rfl, .v _, trivial⟩, trivial⟩) (fun _ => by exact .v _) (by decide) (by simp) ⟨rfl, rfl, rfl, rfl, rfl, rfl, rfl, rfl, trivial⟩ (fun Z91 u91 hZ91 => ?_)
            try dsimp only at hZ91
            simp only [cObsAt, List.zip_cons_cons, List.zip_nil_left, List.zip_nil_right, putsO, putO, Nat.reduceEqDiff, ↓reduceIte]
            obtain rfl : { S with F := Fc } = Z91 := hZ91.symm
            try simp only [bS, bA, thenQ, blockQ, noGotoQ]
            refine q0 _ ?_
            clear q0 Q0
            simp only [go_sem]
            simp only [↓bO, go_sem, seval, look_I, look_B, upd_I, upd_B, frC, hwt, hwl, hls, hls2, hb1, hb2, Int.natCast_add, List.length_append, frame_take, gM hlast, hwt2, hwn, hfs, WS.tick, hkj, gM hkq, partC]
            refine loop_at { S with F := Fc } hF.inv { t.1.tick with bad := true } (kids S) (s9 ++ [(u, t.2 + 1)]) (by simp; omega) (s9.length + 1) (by simp) q (by omega) ⟨rfl, rfl, rfl, rfl, rfl, rfl, rfl, rfl, rfl, rfl, rfl, rfl, rfl, rfl, trivial⟩ ?_
            rw [hlb]
            obtain ⟨m1, m2, m3, m4, m5⟩ := markTo_same q (((u, t.2) :: s9.reverse).map Prod.fst) { t.1.tick with bad := true }
            simp only [cObs, wObs, List.cons_append, List.nil_append, List.zip_cons_cons, List.zip_nil_left, List.zip_nil_right, putsO, putO, Nat.reduceEqDiff, ↓reduceIte]
            try simp only [bS, bA, thenQ, blockQ, noGotoQ]
            refine ⟨(markTo q (((u, t.2) :: s9.reverse).map Prod.fst) { t.1.tick with bad := true }, t.2 + 1), ⟨hDb, hTb, fun x => by (have h9 := ht.2.2 x; unfold WS.dg WS.zg at h9 ⊢; rw [m2, m3]; exact h9)⟩, (by simp only; omega), ?_⟩
            simp only [maskL, setsL, putsO, putO, mB, List.set_cons_zero, List.set_cons_succ, seval, Int.natCast_add, Int.natCast_one, Int.cast_ofNat_Int]
            try simp only [hwl]
            try simp only [hfp]
            refine Weak.sub ?_ ⟨rfl, rfl, rfl, rfl, rfl, rfl, rfl, rfl, rfl, rfl, rfl, rfl, rfl, rfl, rfl, trivial⟩ (by first | omega | (simp only; omega)) (by first | omega | (simp only; omega)) ?_ ?_
            · simp only [go_sem, List.length_append, List.length_cons, List.length_nil, Nat.zero_add, Le.refl, Le.any]
            · repeat' first | exact trivial | exact .any _ | exact .ptr (by omega) | exact .own (by omega) | exact .v _ _ | exact Und.data (EqT.dataSl _) | exact Und.parts (by omega) _ | exact .rptr (by omega) | (refine ⟨?_, ?_⟩)
            · repeat' first | exact trivial | (with_reducible omega) | exact .any _ | exact .ptr (by omega) | exact .own (by omega) | exact .v _ _ | exact .map (by omega) | exact Und.oslG (by omega) | exact Und.rowI (nC_data _) | exact Und.rowI (iC_data _) | exact (fun p hp => .data (vC_data _ p hp)) | exact Und.parts (by omega) _ | exact Und.frames (kids S) (by omega) _ | exact (fun p hp => .data (mC_dataI _ p hp)) | exact (fun p hp => .data (mC_dataB _ p hp)) | (refine ⟨?_, ?_⟩)
           ·
            have hq1 : ¬ t.1.tick.sg q = 1 := by simpa [WS.sg, WS.tick] using hb83
            have hDd := hDt.tick.pass hkq (.inl (hDt.tick.done hq0 hq1))
            refine AWp_skip ?_
            try simp only [thenQ, blockQ, noGotoQ]
            refine ⟨(t.1.tick, t.2 + 1), ⟨hDd, hT2, ht.2.2⟩, (by simp only; omega), ?_⟩
            simp only [maskL, setsL, putsO, putO, mB, List.set_cons_zero, List.set_cons_succ, seval, Int.natCast_add, Int.natCast_one, Int.cast_ofNat_Int]
            try simp only [hwl]
            try simp only [hfp]
            refine Weak.sub ?_ ⟨rfl, rfl, rfl, rfl, rfl, rfl, rfl, rfl, rfl, rfl, rfl, rfl, rfl, rfl, rfl, trivial⟩ (by first | omega | (simp only; omega)) (by first | omega | (simp only; omega)) ?_ ?_
            · simp only [go_sem, List.length_append, List.length_cons, List.length_nil, Nat.zero_add, Le.refl, Le.any]
            · repeat' first | exact trivial | exact .any _ | exact .ptr (by omega) | exact .own (by omega) | exact .v _ _ | exact Und.data (EqT.dataSl _) | exact Und.parts (by omega) _ | exact .rptr (by omega) | (refine ⟨?_, ?_⟩)
            · repeat' first | exact trivial | (with_reducible omega) | exact .any _ | exact .ptr (by omega) | exact .own (by omega) | exact .v _ _ | exact .map (by omega) | exact Und.oslG (by omega) | exact Und.rowI (nC_data _) | exact Und.rowI (iC_data _) | exact (fun p hp => .data (vC_data _ p hp)) | exact Und.parts (by omega) _ | exact Und.frames (kids S) (by omega) _ | exact (fun p hp => .data (mC_dataI _ p hp)) | exact (fun p hp => .data (mC_dataB _ p hp)) | (refine ⟨?_, ?_⟩)
       ·
        have hnx : (kids S u).length ≤ t.2 := by simpa using hb43
        have hr1 : (0 : Int) ≤ (s9.length : Int) := by omega
        have hr2 : (s9.length : Int) ≤ ((s9.length + 1 : Nat) : Int) := by omega
        have hr3 : (s9.length : Int) ≤ (s9.length : Int) + 1 := by omega
        refine AWp_exit ?_
        simp only [thenQ, blockQ, noGotoQ, bA, Nat.reduceEqDiff, ↓reduceIte]
        refine y0 _ ?_
        try clear y0 Y0
        refine AWp_seqK fun Y0 y0 => ?_
        refine AWp_region ?_
        iterate 4 (refine aops_chunk 1 fun Q0 q0 => ?_; simp only [↓bO, go_sem, seval, look_I, look_B, upd_I, upd_B, frC, hwt, hwl, hls, hls2, hb1, hb2, Int.natCast_add, List.length_append, frame_take, gM hlast, aReslice, delO, List.filter_cons, List.filter_nil, Nat.reduceBEq, hr1, hr2, hr3]; refine q0 _ ?_; clear q0 Q0; simp only [go_sem])
        simp only [↓bO, go_sem, seval, look_I, look_B, upd_I, upd_B, frC, hwt, hwl, hls, hls2, hb1, hb2, Int.natCast_add, List.length_append, frame_take, gM hlast, aReslice, delO, List.filter_cons, List.filter_nil, Nat.reduceBEq, hr1, hr2, hr3]
        refine WCalls.at (end_w { S with F := Fc } t.1 ht.2.2 (kids S) u t.2 (kids_len hS u)) (by exact ⟨.ptr rfl, .agg ⟨.v _, .parts rfl _, .v _, trivial⟩, trivial⟩) (fun _ => by exact .tup trivial) (by omega) ⟨rfl, rfl, rfl, rfl, rfl, rfl, rfl, rfl, rfl, rfl, rfl, rfl, rfl, trivial⟩ (fun F6 W6 _ hX6 => ?_)
        dsimp only at hX6
        simp only [cObs, wObs, List.cons_append, List.nil_append, List.zip_cons_cons, List.zip_nil_left, List.zip_nil_right, putsO, putO, Nat.reduceEqDiff, ↓reduceIte]
        obtain ⟨e6, rfl⟩ := hX6
        rw [e6]
        try simp only [bS, bA, thenQ, blockQ, noGotoQ]
        refine y0 _ ?_
        try clear y0 Y0
        refine AWp_region ?_
        iterate 5 (refine aops_chunk 1 fun Q0 q0 => ?_; simp only [↓bO, go_sem, seval, look_I, look_B, upd_I, upd_B, frC, hwt, hwl, hls, hls2, hb1, hb2, Int.natCast_add, List.length_append, frame_take, gM hlast, aReslice, delO, List.filter_cons, List.filter_nil, Nat.reduceBEq, hr1, hr2, hr3]; refine q0 _ ?_; clear q0 Q0; simp only [go_sem])
        simp only [↓bO, go_sem, seval, look_I, look_B, upd_I, upd_B, frC, hwt, hwl, hls, hls2, hb1, hb2, Int.natCast_add, List.length_append, frame_take, gM hlast, aReslice, delO, List.filter_cons, List.filter_nil, Nat.reduceBEq, hr1, hr2, hr3]
        refine ⟨(Fc, t.1.fin u (kids S u), s9, fc ++ [u]), ⟨hF, ht.1.fin hnx (by have := hS.nl; omega), ht.2.1.fin hDt.fr.1, ht.2.2.fin u _, fun x hx => List.mem_append.2 (.inl (hsub x hx)), by (dsimp only; rcases hrin with h9 | h9; exact .inl (by simp [h9]); (simp at h9; rcases h9 with h8 | h8; (exact .inr (by simpa using h8)); exact .inl (by simp [h8])))⟩, (by simp only [List.length_append, List.length_cons, List.length_nil] at hsz ⊢; omega), ?_⟩
        simp only [maskL, setsL, putsO, putO, mB, List.set_cons_zero, List.set_cons_succ, seval, Int.natCast_add, Int.natCast_one, Int.cast_ofNat_Int]
        try simp only [hwl]
        refine Weak.backOwn 14 15 4 s9.length (by first | omega | (simp only; omega)) (by first | omega | (simp only; omega)) (by first | omega | (simp only; omega)) ?_ ?_ ?_ ?_ ?_
        · simp only [List.set_cons_zero, List.set_cons_succ, List.length_append, List.length_cons, List.length_nil, Nat.zero_add, LeL, Le.refl, Le.any, and_self]
        ·
         simp only [List.set_cons_zero, List.set_cons_succ]
         repeat' first | exact trivial | exact .any | exact .ptr rfl | exact .own rfl | exact .v _ | (refine ⟨?_, ?_⟩)
        · exact ⟨⟨_, rfl, .rowR rfl Iff.rfl (.frames (kids S) rfl _)⟩, ⟨_, rfl, .cells ⟨.ptr rfl, .v _, trivial⟩⟩, ⟨_, rfl, .cells ⟨.v _, .ptr rfl, .ptr rfl, .own rfl, .v _, trivial⟩⟩, ⟨_, rfl, .cells ⟨.osl rfl (GNode.dataRows _), .map rfl, trivial⟩⟩, ⟨_, rfl, .tok⟩, ⟨_, rfl, .map (vC_data _)⟩, ⟨_, rfl, .cells ⟨.own rfl, .own rfl, .v _, .v _, trivial⟩⟩, ⟨_, rfl, .row (nC_data _)⟩, ⟨_, rfl, .row (iC_data _)⟩, ⟨_, rfl, .row (iC_data _)⟩, ⟨_, rfl, .map (mC_dataI _)⟩, ⟨_, rfl, .map (mC_dataB _)⟩, ⟨_, rfl, .map (mC_dataI _)⟩, ⟨_, rfl, .map (mC_dataI _)⟩, ⟨_, rfl, .cells ⟨.map rfl, .map rfl, .map rfl, .map rfl, .v _, .v _, trivial⟩⟩, trivial⟩
        · repeat' first | exact trivial | exact .any _ | exact .ptr (by omega) | exact .own (by omega) | exact .v _ _ | exact Und.data (EqT.dataSl _) | exact Und.parts (by omega) _ | exact .rptr (by omega) | (refine ⟨?_, ?_⟩)
        · repeat' first | exact trivial | (with_reducible omega) | exact .any _ | exact .ptr (by omega) | exact .own (by omega) | exact .v _ _ | exact .map (by omega) | exact Und.oslG (by omega) | exact Und.rowI (nC_data _) | exact Und.rowI (iC_data _) | exact (fun p hp => .data (vC_data _ p hp)) | exact Und.parts (by omega) _ | exact Und.frames (kids S) (by omega) _ | exact (fun p hp => .data (mC_dataI _ p hp)) | exact (fun p hp => .data (mC_dataB _ p hp)) | (refine ⟨?_, ?_⟩)
      ·
       have hnil : s.2.2.1 = [] := List.eq_nil_of_length_eq_zero (by (have h9 := hb21; simp at h9; simpa using h9))
       refine AWp_exit ?_
       simp only [thenQ, blockQ, noGotoQ, bA, Nat.reduceEqDiff, ↓reduceIte]
       try simp only [thenQ, blockQ, noGotoQ, retQ, aRes, tupOf, bS, bA]
       refine ⟨_, enumO 0 (cObs { S with F := s.1 } ++ wObs (s.2.1) ++ []), ⟨((s.1, s.2.1), s.2.2.2), ?_, rfl, rfl⟩, .tup trivial, wUnd (by omega) _ _, ?_, ?_, by omega⟩
       · exact ⟨hs.f, by (have h9 := hs.d; rw [hnil] at h9; exact h9), by (have h9 := hs.t; rw [hnil] at h9; exact h9), hs.b, by (have h9 := hs.r; rw [hnil] at h9; simpa using h9), hs.sub⟩
       ·
        exact Le.refl _
       · first | (refine ⟨2, rfl, rfl⟩) | (refine ⟨1, rfl, rfl⟩) | (refine ⟨0, rfl, rfl⟩) | (refine ⟨2, by simp only [cObs, wObs, List.cons_append, List.nil_append, enumO, List.drop_zero, List.drop_succ_cons, Nat.reduceAdd], rfl⟩) | (refine ⟨1, by simp only [cObs, wObs, List.cons_append, List.nil_append, enumO, List.drop_zero, List.drop_succ_cons, Nat.reduceAdd], rfl⟩) | (refine ⟨0, by simp only [cObs, wObs, List.cons_append, List.nil_append, enumO, List.drop_zero, List.drop_succ_cons, Nat.reduceAdd], rfl⟩)
end Go.Proofs.Ytjjjckjebkmnjaa
namespace Go.Proofs.Ytjjjckjebkmnjaa
open Go Go.RowKit
set_option maxRecDepth 100000
set_option maxHeartbeats 4000000
set_option linter.unusedSimpArgs false
set_option linter.unusedVariables false
attribute [local irreducible] aops dRun
theorem xUnd {n : Nat} (h : 14 ≤ n) (S : CS) (W : WS) : UndOs n (enumO 0 (cObs S ++ wObs W ++ [.cells 103 [.ptr 12 0]])) := by
  have h1 := wUnd (n := n) (by omega) S W
  obtain ⟨a0, a1, b0, b1, c0, c1, d0, d1, e0, e1, f0, f1, g0, g1, i0, i1, j0, j1, k0, k1, l0, l1, m0, m1, o0, o1, _⟩ := h1
  exact ⟨a0, a1, b0, b1, c0, c1, d0, d1, e0, e1, f0, f1, g0, g1, i0, i1, j0, j1, k0, k1, l0, l1, m0, m1, o0, o1, by omega, ⟨.ptr (by omega), trivial⟩, trivial⟩
structure WK (S : CS) (W : WS) (fo : List Nat) : Prop where
  d : DfI (kids S) S.F.up.length W [] fo
  t : StI (kids S) W [] fo 0
  b : WBd W
theorem WK.nil (S : CS) : WK S WS0 [] := ⟨.nil _ _, .nil _, fun x => by simp [WS0, WS.dg, WS.zg, mfind, most]⟩
theorem WK.fsame {S : CS} {W : WS} {fo : List Nat} (h : WK S W fo) {F1 : FS} (k : FSame S.F F1) : WK { S with F := F1 } W fo := by
  have e : kids { S with F := F1 } = kids S := funext fun z => kids_fsame k z
  refine ⟨?_, ?_, h.b⟩
  · rw [e]; dsimp only; rw [k.len]; exact h.d
  · rw [e]; exact h.t
theorem WK.back {S : CS} {W : WS} {fo : List Nat} {F1 : FS} (k : FSame S.F F1) (h : WK { S with F := F1 } W fo) : WK S W fo := by
  have e : kids { S with F := F1 } = kids S := funext fun z => kids_fsame k z
  obtain ⟨h1, h2, h3⟩ := h
  rw [e] at h1 h2
  dsimp only at h1
  rw [k.len] at h1
  exact ⟨h1, h2, h3⟩
theorem walk_w (S : CS) (hS : CyG S) (W : WS) (fo : List Nat) (h : WK S W fo) (r : Nat) (hr : Rt S.F.up r r) : WCalls (σ := List Nat) 94 [.ptr 12 0, .agg [.ptr 0 0, .v (.int .i64 (r : Int))]] S W (fun s => FSame S.F s.1.1 ∧ DfI (kids S) S.F.up.length s.1.2 [] s.2 ∧ StI (kids S) s.1.2 [] s.2 0 ∧ WBd s.1.2 ∧ r ∈ s.2 ∧ ∀ x ∈ fo, x ∈ s.2) (fun _ => .tup []) := walk_c S hS W fo h.d h.t h.b r hr
def XWCalls {σ : Type} (f : Nat) (args : List AV) (S : CS) (W : WS) (C : (FS × WS) × σ → Prop) (R : σ → AV) : Prop :=
  ACalls Try.prog f args (enumO 0 (cObs S ++ wObs W ++ [.cells 103 [.ptr 12 0]])) 14 fun z os n => (∃ s : (FS × WS) × σ, C s ∧ z = R s.2 ∧ os = enumO 0 (cObs { S with F := s.1.1 } ++ wObs s.1.2 ++ [.cells 103 [.ptr 12 0]])) ∧ n = 14
theorem XWCalls.at {σ : Type} {f : Nat} {args : List AV} {S : CS} {W : WS} {C : (FS × WS) × σ → Prop} {R : σ → AV} (h : XWCalls f args S W C R) {os' : Os} {nx' : Nat}
    (ha : RenL (renOf [0, 1, 2, 3, 4, 5, 6, 7, 8, 9, 10, 11, 12, 13] nx') args args) (hR : ∀ s, RenV (renOf [0, 1, 2, 3, 4, 5, 6, 7, 8, 9, 10, 11, 12, 13] nx') (R s) (R s)) (hlt : 14 ≤ nx') (hg : GetsO os' [0, 1, 2, 3, 4, 5, 6, 7, 8, 9, 10, 11, 12, 13] (cObs S ++ wObs W ++ [.cells 103 [.ptr 12 0]])) {Q' : AV → Os → Nat → Prop}
    (hq : ∀ (F1 : FS) (W1 : WS) (s : σ), C ((F1, W1), s) → Q' (R s) (putsO os' ([0, 1, 2, 3, 4, 5, 6, 7, 8, 9, 10, 11, 12, 13].zip (cObs { S with F := F1 } ++ wObs W1 ++ [.cells 103 [.ptr 12 0]]))) nx') : ACalls Try.prog f args os' nx' Q' := by
  have ren : ∀ (S : CS) (W : WS), RenOs (renOf [0, 1, 2, 3, 4, 5, 6, 7, 8, 9, 10, 11, 12, 13] nx') 0 (cObs S ++ wObs W ++ [.cells 103 [.ptr 12 0]]) (cObs S ++ wObs W ++ [.cells 103 [.ptr 12 0]]) := fun S W =>
    ⟨.cells ⟨.v _, .ptr rfl, .ptr rfl, .own rfl, .v _, trivial⟩, .cells ⟨.osl rfl (GNode.dataRows S.G.N), .map rfl, trivial⟩, .tok, .map (vC_data S.G.V), .cells ⟨.own rfl, .own rfl, .v _, .v _, trivial⟩, .row (nC_data _), .row (iC_data _), .row (iC_data _),
      .map (mC_dataI _), .map (mC_dataB _), .map (mC_dataI _), .map (mC_dataI _), .cells ⟨.map rfl, .map rfl, .map rfl, .map rfl, .v _, .v _, trivial⟩, .cells ⟨.ptr rfl, trivial⟩, trivial⟩
  exact ACalls.atE (σ := (FS × WS) × σ) (C := C) (args := args) (R := fun s => R s.2) (R' := fun s => R s.2) (obs := cObs S ++ wObs W ++ [.cells 103 [.ptr 12 0]]) (obs1 := fun s => cObs { S with F := s.1.1 } ++ wObs s.1.2 ++ [.cells 103 [.ptr 12 0]]) (obs' := cObs S ++ wObs W ++ [.cells 103 [.ptr 12 0]]) (obs1' := fun s => cObs { S with F := s.1.1 } ++ wObs s.1.2 ++ [.cells 103 [.ptr 12 0]]) [0, 1, 2, 3, 4, 5, 6, 7, 8, 9, 10, 11, 12, 13]
    (by unfold XWCalls at h; exact h) rfl (fun _ => rfl) (by decide) (by simp only [List.mem_cons, List.not_mem_nil, or_false]; omega) ha (fun s => hR s.2) (ren S W) hg (fun s => ren _ s.1.2) (fun s hs => hq s.1.1 s.1.2 s.2 hs)
theorem all1_c (S : CS) (hS : CyG S) (W : WS) (fo : List Nat) (hW : WK S W fo) (v : Int) (r : Nat) (hr : Rt S.F.up r r) : ACalls Try.prog 93 [.v (.int .i64 v), .agg [.ptr 0 0, .v (.int .i64 (r : Int))], .ptr 13 0] (enumO 0 (cObs (S) ++ wObs (W) ++ [.cells 103 [.ptr 12 0]])) 14 fun z os n => (∃ s : (FS × WS) × List Nat, (FSame S.F s.1.1 ∧ WK S s.1.2 s.2 ∧ r ∈ s.2 ∧ ∀ x ∈ fo, x ∈ s.2) ∧ z = (fun s : List Nat => .tup []) s.2 ∧ os = enumO 0 (cObs { S with F := s.1.1 } ++ wObs s.1.2 ++ [.cells 103 [.ptr 12 0]])) ∧ n = 14 := by
  refine ACalls.clean (C := fun zr zo => ∃ s : (FS × WS) × List Nat, (FSame S.F s.1.1 ∧ WK S s.1.2 s.2 ∧ r ∈ s.2 ∧ ∀ x ∈ fo, x ∈ s.2) ∧ zr = (fun s : List Nat => .tup []) s.2 ∧ zo = enumO 0 (cObs { S with F := s.1.1 } ++ wObs s.1.2 ++ [.cells 103 [.ptr 12 0]])) ?_
  refine ACalls_intro Try.func93 (by kernel_rfl) rfl (by rw [Try.ntmps93]; simp) (fun hm => ?_)
  simp only [Try.ntmps93, Try.results93, List.length_cons, List.length_nil, Nat.reduceAdd, Nat.reduceSub, List.replicate_succ, List.replicate_zero, List.cons_append, List.nil_append]
  simp only [cObs, wObs, List.cons_append, List.nil_append, enumO, Nat.reduceAdd]
  refine AWp_seqK fun Y0 y0 => ?_
  refine AWp_region ?_
  simp only [↓bO, go_sem, seval]
  refine y0 _ ?_
  try clear y0 Y0
  refine AWp_region ?_
  iterate 2 (refine aops_chunk 1 fun Q0 q0 => ?_; simp only [↓bO, go_sem, seval]; refine q0 _ ?_; clear q0 Q0; simp only [go_sem])
  simp only [↓bO, go_sem, seval]
  refine WCalls.at (walk_w S hS W fo hW r hr) (by exact ⟨.ptr rfl, .agg ⟨.ptr rfl, .v _, trivial⟩, trivial⟩) (fun _ => by exact .tup trivial) (by omega) ⟨rfl, rfl, rfl, rfl, rfl, rfl, rfl, rfl, rfl, rfl, rfl, rfl, rfl, trivial⟩ (fun F1 W1 fo1 hX1 => ?_)
  dsimp only at hX1
  simp only [cObs, wObs, List.cons_append, List.nil_append, List.zip_cons_cons, List.zip_nil_left, List.zip_nil_right, putsO, putO, Nat.reduceEqDiff, ↓reduceIte]
  try simp only [bS, bA, thenQ, blockQ, noGotoQ]
  try simp only [thenQ, blockQ, noGotoQ, retQ, aRes, tupOf, bS, bA]
  refine ⟨_, enumO 0 (cObs { S with F := F1 } ++ wObs (W1) ++ [.cells 103 [.ptr 12 0]]), ⟨((F1, W1), fo1), ?_, rfl, rfl⟩, .tup trivial, xUnd (by omega) _ _, ?_, ?_, by omega⟩
  · exact ⟨hX1.1, ⟨hX1.2.1, hX1.2.2.1, hX1.2.2.2.1⟩, hX1.2.2.2.2.1, hX1.2.2.2.2.2⟩
  ·
   exact Le.refl _
  · first | (refine ⟨1, rfl, rfl⟩) | (refine ⟨0, rfl, rfl⟩) | (refine ⟨1, by simp only [cObs, wObs, List.cons_append, List.nil_append, enumO, List.drop_zero, List.drop_succ_cons, Nat.reduceAdd], rfl⟩) | (refine ⟨0, by simp only [cObs, wObs, List.cons_append, List.nil_append, enumO, List.drop_zero, List.drop_succ_cons, Nat.reduceAdd], rfl⟩)
theorem each1_c (S : CS) (hS : CyG S) (hc : S.clash = false) (W : WS) (fo : List Nat) (hW : WK S W fo) : ACalls Try.prog 74 [.ptr 0 0, .clo 93 [.ptr 13 0]] (enumO 0 (cObs (S) ++ wObs (W) ++ [.cells 103 [.ptr 12 0]])) 14 fun z os n => (∃ s : (FS × WS) × List Nat, (FSame S.F s.1.1 ∧ WK S s.1.2 s.2 ∧ ∀ (v i : Int) (q : Nat), vfind S.G.V v = some i → Rt S.F.up i.toNat q → q ∈ s.2) ∧ z = (fun s : List Nat => .tup []) s.2 ∧ os = enumO 0 (cObs { S with F := s.1.1 } ++ wObs s.1.2 ++ [.cells 103 [.ptr 12 0]])) ∧ n = 14 := by
  refine ACalls.clean (C := fun zr zo => ∃ s : (FS × WS) × List Nat, (FSame S.F s.1.1 ∧ WK S s.1.2 s.2 ∧ ∀ (v i : Int) (q : Nat), vfind S.G.V v = some i → Rt S.F.up i.toNat q → q ∈ s.2) ∧ zr = (fun s : List Nat => .tup []) s.2 ∧ zo = enumO 0 (cObs { S with F := s.1.1 } ++ wObs s.1.2 ++ [.cells 103 [.ptr 12 0]])) ?_
  refine ACalls_intro Try.func74 (by kernel_rfl) rfl (by rw [Try.ntmps74]; simp) (fun hm => ?_)
  simp only [Try.ntmps74, Try.results74, List.length_cons, List.length_nil, Nat.reduceAdd, Nat.reduceSub, List.replicate_succ, List.replicate_zero, List.cons_append, List.nil_append]
  simp only [cObs, wObs, List.cons_append, List.nil_append, enumO, Nat.reduceAdd]
  have hvl := hS.vl
  refine AWp_seqK fun Y0 y0 => ?_
  refine AWp_region ?_
  refine aops_chunk 1 fun Q0 q0 => ?_
  simp only [↓bO, go_sem, seval, look_I, look_B, upd_I, upd_B]
  refine q0 _ ?_
  clear q0 Q0
  simp only [go_sem]
  refine aops_chunk 1 fun Q0 q0 => ?_
  simp only [↓bO, go_sem, seval, look_I, look_B, upd_I, upd_B]
  refine CCalls.at (CVars2_c S (fun _ => hS.h64) (fun _ => by omega)) (.nil) (fun _ => dataInts _) (i0 := 0) (i1 := 1) (i2 := 2) (i3 := 3) (i4 := 4) (i5 := 5) (i6 := 6) (i7 := 7) (by decide) (by simp) ⟨rfl, rfl, rfl, rfl, rfl, rfl, rfl, rfl, trivial⟩ (fun Z9 u9 hZ9 => ?_)
  try dsimp only at hZ9
  simp only [cObsAt, List.zip_cons_cons, List.zip_nil_left, List.zip_nil_right, putsO, putO, Nat.reduceEqDiff, ↓reduceIte]
  obtain rfl : S = Z9 := hZ9.symm
  rw [if_neg (show ¬ (S.clash = true) from by rw [hc]; decide)]
  obtain ⟨L, hL⟩ : ∃ L, L = sortI (S.G.V.map Prod.fst) := ⟨_, rfl⟩
  rw [← hL]
  have hLl : L.length ≤ 1048576 := by (rw [hL, List.length_mergeSort, List.length_map]; exact hvl)
  try simp only [bS, bA, thenQ, blockQ, noGotoQ]
  refine q0 _ ?_
  clear q0 Q0
  simp only [go_sem]
  refine aops_chunk 1 fun Q0 q0 => ?_
  simp only [↓bO, go_sem, seval, look_I, look_B, upd_I, upd_B]
  refine q0 _ ?_
  clear q0 Q0
  simp only [go_sem]
  simp only [↓bO, go_sem, seval, look_I, look_B, upd_I, upd_B]
  refine y0 _ ?_
  try clear y0 Y0
  refine AWp_block ?_
  refine AWp_loopM (σ := FS × WS × List Nat × Nat) (mB 26 3587) (fun s => FSame S.F s.1 ∧ WK S s.2.1 s.2.2.1 ∧ s.2.2.2 ≤ L.length ∧ (∀ (j : Nat) (v i : Int) (q : Nat), j < s.2.2.2 → L[j]? = some v → vfind S.G.V v = some i → Rt S.F.up i.toNat q → q ∈ s.2.2.1)) (fun s => [(11, .v (.int .i64 (s.2.2.2 : Int)))]) (fun s => [(4, .cells 115 [.own 5 s.1.up.length, .own 6 s.1.rank.length, .v (.int .i64 s.1.sets), .v (.int .i64 s.1.steps)]), (5, .row 3 1 (s.1.up.map nC)), (6, .row 3 1 (s.1.rank.map intC)), (8, .map (mC cI s.2.1.st)), (9, .map (mC cB s.2.1.cy)), (10, .map (mC cI s.2.1.de)), (11, .map (mC cI s.2.1.sz)), (12, .cells 108 [.map 8, .map 9, .map 10, .map 11, .v (.int .i64 s.2.1.steps), .v (.bool s.2.1.bad)])]) (fun s => L.length - s.2.2.2) (S.F, W, fo, 0) (⟨FSame.refl hS.c.f, hW, Nat.zero_le _, fun j v i q hj => by simp at hj⟩) ?_ (fun s hs => ?_)
  ·
   simp only [maskL, setsL, putsO, putO, mB, List.set_cons_zero, List.set_cons_succ, seval]
   exact Weak.mk (by simp only [go_sem, Le.refl, Le.any, Le.slNil, Int.natCast_add, Int.cast_ofNat_Int, Int.natCast_one]) (fun _ _ h => h) rfl rfl
  simp only [maskL, setsL, putsO, putO, mB, List.set_cons_zero, List.set_cons_succ, seval]
  refine AWp_seqK fun Y0 y0 => ?_
  refine AWp_region ?_
  simp only [↓bO, go_sem, seval, look_I, look_B, upd_I, upd_B]
  refine y0 _ ?_
  try clear y0 Y0
  refine AWp_seqK fun Y0 y0 => ?_
  refine AWp_cond rfl (fun hb12 => ?_) (fun hb12 => ?_)
  ·
   have hk : s.2.2.2 < L.length := by simpa using hb12
   obtain ⟨v, he⟩ : ∃ v, L[s.2.2.2]? = some v := ⟨_, List.getElem?_eq_getElem hk⟩
   obtain ⟨i, hvi⟩ := sort_vfind (V := S.G.V) v (by rw [← hL]; exact List.mem_of_getElem? he)
   have hw1 : IntKind.i64.wrap ((s.2.2.2 : Int) + 1) = (s.2.2.2 : Int) + 1 := wrap_in (by omega) (by omega)
   refine AWp_skip ?_
   try simp only [thenQ, blockQ, noGotoQ]
   refine y0 _ ?_
   try clear y0 Y0
   refine AWp_seqK fun Y0 y0 => ?_
   refine AWp_block ?_
   refine AWp_seqK fun Y1 y1 => ?_
   refine AWp_region ?_
   iterate 2 (refine aops_chunk 1 fun Q0 q0 => ?_; simp only [↓bO, go_sem, seval, look_I, look_B, upd_I, upd_B, hk, gM he, intC, hw1, Int.natCast_add]; refine q0 _ ?_; clear q0 Q0; simp only [go_sem])
   simp only [↓bO, go_sem, seval, look_I, look_B, upd_I, upd_B, hk, gM he, intC, hw1, Int.natCast_add]
   refine y1 _ ?_
   try clear y1 Y1
   refine AWp_joinF (σ := FS × Nat) (mB 26 3683) (fun y3 => [(6, .eptr [.ptr 0 0, .v (.int .i64 (y3.2 : Int))])]) (fun y3 => [(0, .cells 89 [.v (.int .i64 S.steps), .ptr 1 0, .ptr 4 0, .own 7 S.W.length, .v (.bool S.clash)]), (1, .cells 118 [.osl 2 4 (S.G.N.map GNode.cells), .map 3]), (2, .tok 128 4 S.G.N.length), (3, .map (S.G.V.map vC)), (4, .cells 115 [.own 5 y3.1.up.length, .own 6 y3.1.rank.length, .v (.int .i64 y3.1.sets), .v (.int .i64 y3.1.steps)]), (5, .row 3 1 (y3.1.up.map nC)), (6, .row 3 1 (y3.1.rank.map intC)), (7, .row 3 1 (S.W.map intC)), (8, .map (mC cI s.2.1.st)), (9, .map (mC cB s.2.1.cy)), (10, .map (mC cI s.2.1.de)), (11, .map (mC cI s.2.1.sz)), (12, .cells 108 [.map 8, .map 9, .map 10, .map 11, .v (.int .i64 s.2.1.steps), .v (.bool s.2.1.bad)]), (13, .cells 103 [.ptr 12 0])]) 14 (fun y3 => FSame S.F y3.1 ∧ Rt S.F.up i.toNat y3.2) ?_ (fun y3 hy3 => ?_)
   ·
    refine AWp_region ?_
    iterate 2 (refine aops_chunk 1 fun Q0 q0 => ?_; simp only [↓bO, go_sem, seval, look_I, look_B, upd_I, upd_B, hk, gM he, intC, hw1, Int.natCast_add]; refine q0 _ ?_; clear q0 Q0; simp only [go_sem])
    refine aops_chunk 1 fun Q0 q0 => ?_
    simp only [↓bO, go_sem, seval, look_I, look_B, upd_I, upd_B, hk, gM he, intC, hw1, Int.natCast_add]
    refine CCalls.atP (R' := fun s => .tup [.agg (partC 0 s), .v (.bool true)]) (CPart_c { S with F := s.1 } hs.1.inv (fun n k h => by have := hS.vin n k h; dsimp only; rw [hs.1.len]; exact this) hc v i hvi) (i0 := 0) (i1 := 1) (i2 := 2) (i3 := 3) (i4 := 4) (i5 := 5) (i6 := 6) (i7 := 7) (by exact ⟨.ptr rfl, .v _, trivial⟩) (fun _ => by exact .tup ⟨.part rfl _, .v _, trivial⟩) (by decide) (by simp) ⟨rfl, rfl, rfl, rfl, rfl, rfl, rfl, rfl, trivial⟩ (fun Z1 r1 hX1 => ?_)
    try dsimp only at hX1
    simp only [cObsAt, List.zip_cons_cons, List.zip_nil_left, List.zip_nil_right, putsO, putO, Nat.reduceEqDiff, ↓reduceIte]
    obtain ⟨F1, rfl⟩ : ∃ F, Z1 = { S with F := F } := ⟨Z1.F, hX1.2.1⟩
    dsimp only at hX1
    have hF1 : FSame S.F F1 := hs.1.trans hX1.1
    have hrt := (hs.1.rt _ _).1 hX1.2.2
    try simp only [bS, bA, thenQ, blockQ, noGotoQ]
    iterate 5 (refine q0 _ ?_; clear q0 Q0; simp only [go_sem]; refine aops_chunk 1 fun Q0 q0 => ?_; simp only [↓bO, go_sem, seval, look_I, look_B, upd_I, upd_B, hk, gM he, intC, hw1, Int.natCast_add, partC])
    refine q0 _ ?_
    clear q0 Q0
    simp only [go_sem]
    simp only [↓bO, go_sem, seval, look_I, look_B, upd_I, upd_B, hk, gM he, intC, hw1, Int.natCast_add, partC]
    try simp only [maskL, setsL, putsO, putO, mB, List.set_cons_zero, List.set_cons_succ, seval]
    refine ⟨(F1, r1), ⟨hF1, hrt⟩, ?_⟩
    refine Weak.freeze ?_ ⟨rfl, rfl, rfl, rfl, rfl, rfl, rfl, rfl, rfl, rfl, rfl, rfl, rfl, rfl, trivial⟩ (by first | omega | (simp only; omega)) (by first | omega | (simp only; omega)) ?_ ?_
    · repeat' first | trivial | exact .inr ⟨_, _, _, rfl, rfl, rfl, rfl⟩ | exact .inl (.refl _) | exact .inl (.any _) | (refine ⟨?_, ?_⟩)
    · repeat' first | exact trivial | exact .any _ | exact .ptr (by omega) | exact .own (by omega) | exact .v _ _ | exact Und.data (EqT.dataSl _) | exact Und.data (dataInts _) | exact Und.eptr ⟨.ptr (by omega), .v _ _, trivial⟩ | exact .clo ⟨.ptr (by omega), trivial⟩ | (refine ⟨?_, ?_⟩)
    · repeat' first | exact trivial | (with_reducible omega) | exact .any _ | exact .ptr (by omega) | exact .own (by omega) | exact .v _ _ | exact .map (by omega) | exact Und.oslG (by omega) | exact Und.rowI (nC_data _) | exact Und.rowI (iC_data _) | exact (fun p hp => .data (vC_data _ p hp)) | exact (fun p hp => .data (mC_dataI _ p hp)) | exact (fun p hp => .data (mC_dataB _ p hp)) | (refine ⟨?_, ?_⟩)
   simp only [maskL, setsL, putsO, putO, mB, List.set_cons_zero, List.set_cons_succ, seval]
   obtain ⟨F1, r1⟩ := y3
   obtain ⟨hF1, hrt⟩ := hy3
   dsimp only at hF1 hrt
   dsimp only
   refine AWp_region ?_
   iterate 3 (refine aops_chunk 1 fun Q0 q0 => ?_; simp only [↓bO, go_sem, seval, look_I, look_B, upd_I, upd_B, hk, gM he, intC, hw1, Int.natCast_add]; refine q0 _ ?_; clear q0 Q0; simp only [go_sem])
   simp only [↓bO, go_sem, seval, look_I, look_B, upd_I, upd_B, hk, gM he, intC, hw1, Int.natCast_add]
   refine ACalls.mono (show ACalls Try.prog 93 _ (enumO 0 (cObs { S with F := F1 } ++ wObs s.2.1 ++ [.cells 103 [.ptr 12 0]])) 14 _ from all1_c { S with F := F1 } (hS.fsame hF1 (hS.c.fsame hF1)) s.2.1 s.2.2.1 (hs.2.1.fsame hF1) v r1 ((hF1.rt _ _).2 (rt_root.1 hrt.root))) ?_
   rintro z os' nx' ⟨⟨⟨⟨F2, W2⟩, fo2⟩, hY, rfl, rfl⟩, rfl⟩
   dsimp only at hY
   obtain ⟨y1, y2, y3, y4⟩ := hY
   have hF2 := hF1.trans y1
   have hK2 := WK.back hF1 y2
   simp only [cObs, wObs, List.cons_append, List.nil_append, enumO, Nat.reduceAdd]
   try simp only [bS, bA, thenQ, blockQ, noGotoQ]
   refine y0 _ ?_
   try clear y0 Y0
   refine AWp_region ?_
   refine aops_chunk 1 fun Q0 q0 => ?_
   simp only [↓bO, go_sem, seval, look_I, look_B, upd_I, upd_B, hk, gM he, intC, hw1, Int.natCast_add]
   refine q0 _ ?_
   clear q0 Q0
   simp only [go_sem]
   simp only [↓bO, go_sem, seval, look_I, look_B, upd_I, upd_B, hk, gM he, intC, hw1, Int.natCast_add]
   refine ⟨(F2, W2, fo2, s.2.2.2 + 1), ⟨hF2, hK2, by simp only; omega, fun j v9 i9 q9 hj hv9 hi9 hq9 => (by (rcases Nat.lt_or_ge j s.2.2.2 with h9 | h9; exact y4 q9 (hs.2.2.2 j v9 i9 q9 h9 hv9 hi9 hq9); (obtain rfl : j = s.2.2.2 := by (simp only at hj; omega)); rw [he] at hv9; cases hv9; rw [hvi] at hi9; cases hi9; rw [Rt.det hq9 hrt]; exact y3))⟩, (by simp only; omega), ?_⟩
   simp only [maskL, setsL, putsO, putO, mB, List.set_cons_zero, List.set_cons_succ, seval, hk, gM he, intC, hw1, Int.natCast_add, Int.natCast_one, Int.cast_ofNat_Int]
   exact Weak.mk (by simp only [go_sem, Le.refl, Le.any, Le.slNil, Int.natCast_add, Int.cast_ofNat_Int, Int.natCast_one]) (fun _ _ h => h) rfl rfl
  ·
   have hk : s.2.2.2 = L.length := by (have h9 := hb12; simp at h9; have := hs.2.2.1; omega)
   refine AWp_exit ?_
   simp only [thenQ, blockQ, noGotoQ, bA, Nat.reduceEqDiff, ↓reduceIte]
   try simp only [thenQ, blockQ, noGotoQ, retQ, aRes, tupOf, bS, bA]
   refine ⟨_, enumO 0 (cObs { S with F := s.1 } ++ wObs (s.2.1) ++ [.cells 103 [.ptr 12 0]]), ⟨((s.1, s.2.1), s.2.2.1), ?_, rfl, rfl⟩, .tup trivial, xUnd (by omega) _ _, ?_, ?_, by omega⟩
   · exact ⟨hs.1, hs.2.1, fun v i q hvi hq => (by (obtain ⟨j, hj, e⟩ := List.mem_iff_getElem.1 (show v ∈ L from by (rw [hL]; exact (List.mergeSort_perm _ _).mem_iff.2 (List.mem_map.2 ⟨_, vfind_mem hvi, rfl⟩))); exact hs.2.2.2 j v i q (by rw [hk]; exact hj) (by rw [List.getElem?_eq_getElem hj, e]) hvi hq))⟩
   ·
    exact Le.refl _
   · first | (refine ⟨0, rfl, rfl⟩) | (refine ⟨0, by simp only [cObs, wObs, List.cons_append, List.nil_append, enumO, List.drop_zero, List.drop_succ_cons, Nat.reduceAdd], rfl⟩)
end Go.Proofs.Ytjjjckjebkmnjaa
namespace Go.Proofs.Ytjjjckjebkmnjaa
open Go Go.RowKit
set_option maxRecDepth 100000
set_option maxHeartbeats 4000000
set_option linter.unusedSimpArgs false
set_option linter.unusedVariables false
attribute [local irreducible] aops dRun
def aOs (S : CS) (W : WS) : Os := (12, .cells 108 [.map 8, .map 9, .map 10, .map 11, .v (.int .i64 W.steps), .v (.bool W.bad)]) :: (11, .map (mC cI W.sz)) :: (10, .map (mC cI W.de)) :: (9, .map (mC cB W.cy)) :: (8, .map (mC cI W.st)) :: enumO 0 (cObs S)
theorem aUnd {n : Nat} (h : 13 ≤ n) (S : CS) (W : WS) : UndOs n (aOs S W) :=
  ⟨by omega, ⟨.map (by omega), .map (by omega), .map (by omega), .map (by omega), .v _ _, .v _ _, trivial⟩, by omega, fun p hp => .data (mC_dataI _ p hp), by omega, fun p hp => .data (mC_dataI _ p hp), by omega, fun p hp => .data (mC_dataB _ p hp), by omega, fun p hp => .data (mC_dataI _ p hp), cUnd (by omega) S⟩
def AllR (S : CS) (s : (FS × WS) × List Nat) : Prop := (S.clash = true ∧ s.1.1 = S.F ∧ s.1.2 = { WS0 with bad := true } ∧ s.2 = []) ∨
  (S.clash = false ∧ FSame S.F s.1.1 ∧ WK S s.1.2 s.2 ∧ ∀ (v i : Int) (q : Nat), vfind S.G.V v = some i → Rt S.F.up i.toNat q → q ∈ s.2)
def CountR (S : CS) (s : Bool × Int) : Prop := (S.clash = true ∧ s = (false, 0)) ∨
  (S.clash = false ∧ (s.1 = false → ∃ y, y < S.F.up.length ∧ Pls (kids S) y y) ∧ (s.1 = true → ∀ (v i : Int) (q : Nat), vfind S.G.V v = some i → Rt S.F.up i.toNat q → ¬ Lp (kids S) q) ∧ 0 ≤ s.2 ∧ s.2 ≤ 11 * (S.F.up.length : Int))
theorem AllR.count {S : CS} {F1 : FS} {W1 : WS} {fo1 : List Nat} (hS : S.clash = false → CyG S) (h : AllR S ((F1, W1), fo1)) : CountR S (!W1.bad, W1.steps) := by
  rcases h with ⟨h1, _, h2, _⟩ | ⟨h1, h2, h3, h4⟩
  · dsimp only at h2
    subst h2
    exact .inl ⟨h1, rfl⟩
  · dsimp only at h2 h3 h4
    have hd := h3.d
    have hn : fo1.length ≤ S.F.up.length := by
      have h5 := nodup_le (by simpa using hd.nd) (fun r hr => hd.lt r (by simpa using hr))
      exact h5
    have hst := h3.t.bound (kids_len (hS h1))
    refine .inr ⟨h1, fun hb => ?_, fun hb v i q hv hq hl => ?_, h3.t.pos, by omega⟩
    · obtain ⟨y, hy, hp⟩ := hd.bad_iff.1 (by simpa using hb)
      exact ⟨y, hd.lt y (by simpa using hy), hp⟩
    · obtain ⟨y, h5, h6⟩ := hl
      have h7 := hd.rch h5 (h4 v i q hv hq)
      have := hd.bad_iff.2 ⟨y, h7, h6⟩
      rw [this] at hb; cases hb
theorem each1_w (S : CS) (hS : CyG S) (hc : S.clash = false) (W : WS) (fo : List Nat) (hW : WK S W fo) : XWCalls (σ := List Nat) 74 [.ptr 0 0, .clo 93 [.ptr 13 0]] S W (fun s => FSame S.F s.1.1 ∧ WK S s.1.2 s.2 ∧ ∀ (v i : Int) (q : Nat), vfind S.G.V v = some i → Rt S.F.up i.toNat q → q ∈ s.2) (fun _ => .tup []) := each1_c S hS hc W fo hW
theorem all_c (S : CS) (hS : S.clash = false → CyG S) : ACalls Try.prog 73 [.ptr 0 0] (enumO 0 (cObs S)) 8 fun z os n => (∃ s : (FS × WS) × List Nat, AllR S s ∧ z = .ptr 12 0 ∧ os = aOs { S with F := s.1.1 } s.1.2) ∧ n = 13 := by
  refine ACalls.cleanN (n := 13) (C := fun zr zo => ∃ s : (FS × WS) × List Nat, AllR S s ∧ zr = .ptr 12 0 ∧ zo = aOs { S with F := s.1.1 } s.1.2) (by omega) ?_
  refine ACalls_intro Try.func73 (by kernel_rfl) rfl (by rw [Try.ntmps73]; simp) (fun hm => ?_)
  simp only [Try.ntmps73, Try.results73, List.length_cons, List.length_nil, Nat.reduceAdd, Nat.reduceSub, List.replicate_succ, List.replicate_zero, List.cons_append, List.nil_append]
  simp only [cObs, enumO, Nat.reduceAdd]
  refine AWp_seqK fun Y0 y0 => ?_
  refine AWp_region ?_
  simp only [↓bO, go_sem, seval]
  refine y0 _ ?_
  try clear y0 Y0
  refine AWp_seqK fun Y0 y0 => ?_
  refine AWp_region ?_
  iterate 7 (refine aops_chunk 1 fun Q0 q0 => ?_; simp only [↓bO, go_sem, seval]; refine q0 _ ?_; clear q0 Q0; simp only [go_sem])
  simp only [↓bO, go_sem, seval]
  refine y0 _ ?_
  try clear y0 Y0
  refine AWp_seqK fun Y0 y0 => ?_
  refine AWp_seqK fun Y1 y1 => ?_
  refine AWp_region ?_
  refine aops_chunk 1 fun Q0 q0 => ?_
  simp only [↓bO, go_sem, seval]
  refine q0 _ ?_
  clear q0 Q0
  simp only [go_sem]
  refine aops_chunk 1 fun Q0 q0 => ?_
  simp only [↓bO, go_sem, seval]
  refine CCalls.at (Err_c S) (.nil) (fun _ => .v _) (i0 := 0) (i1 := 1) (i2 := 2) (i3 := 3) (i4 := 4) (i5 := 5) (i6 := 6) (i7 := 7) (by decide) (by simp) ⟨rfl, rfl, rfl, rfl, rfl, rfl, rfl, rfl, trivial⟩ (fun Z9 u9 hZ9 => ?_)
  try dsimp only at hZ9
  simp only [cObsAt, List.zip_cons_cons, List.zip_nil_left, List.zip_nil_right, putsO, putO, Nat.reduceEqDiff, ↓reduceIte]
  obtain rfl : S = Z9 := hZ9.symm
  try simp only [bS, bA, thenQ, blockQ, noGotoQ]
  refine q0 _ ?_
  clear q0 Q0
  simp only [go_sem]
  simp only [↓bO, go_sem, seval]
  refine y1 _ ?_
  try clear y1 Y1
  refine AWp_cond rfl (fun hb12 => ?_) (fun hb12 => ?_)
  ·
   have hcs : S.clash = true := by (have h9 := hb12; cases hc : S.clash <;> simp [hc] at h9 ⊢)
   refine AWp_seqK fun Y1 y1 => ?_
   refine AWp_region ?_
   iterate 3 (refine aops_chunk 1 fun Q0 q0 => ?_; simp only [↓bO, go_sem, seval]; refine q0 _ ?_; clear q0 Q0; simp only [go_sem])
   simp only [↓bO, go_sem, seval]
   refine y1 _ ?_
   try clear y1 Y1
   refine AWp_seqK fun Y1 y1 => ?_
   refine AWp_region ?_
   refine aops_chunk 1 fun Q0 q0 => ?_
   simp only [↓bO, go_sem, seval]
   refine q0 _ ?_
   clear q0 Q0
   simp only [go_sem]
   simp only [↓bO, go_sem, seval]
   refine y1 _ ?_
   try clear y1 Y1
   refine AWp_ret ?_
   try simp only [thenQ, blockQ, noGotoQ, retQ, aRes, tupOf, bS, bA]
   refine ⟨_, aOs { S with F := S.F } ({ WS0 with bad := true }), ⟨((S.F, { WS0 with bad := true }), []), ?_, rfl, rfl⟩, .ptr (by omega), aUnd (by omega) _ _, Le.refl _, ?_, by omega⟩
   · exact .inl ⟨hcs, rfl, rfl, rfl⟩
   · exact ⟨1, rfl, rfl⟩
  ·
   have hcs : S.clash = false := by (have h9 := hb12; cases hc : S.clash <;> simp [hc] at h9 ⊢)
   refine AWp_skip ?_
   try simp only [thenQ, blockQ, noGotoQ]
   refine y0 _ ?_
   try clear y0 Y0
   refine AWp_seqK fun Y0 y0 => ?_
   refine AWp_region ?_
   iterate 2 (refine aops_chunk 1 fun Q0 q0 => ?_; simp only [↓bO, go_sem, seval]; refine q0 _ ?_; clear q0 Q0; simp only [go_sem])
   simp only [↓bO, go_sem, seval]
   refine XWCalls.at (σ := List Nat) (S := S) (W := WS0) (each1_w S (hS hcs) hcs WS0 [] (WK.nil S)) (by exact ⟨.ptr rfl, .clo ⟨.ptr rfl, trivial⟩, trivial⟩) (fun _ => by exact .tup trivial) (by omega) ⟨rfl, rfl, rfl, rfl, rfl, rfl, rfl, rfl, rfl, rfl, rfl, rfl, rfl, rfl, trivial⟩ (fun F1 W1 fo1 hX1 => ?_)
   dsimp only at hX1
   simp only [cObs, wObs, List.cons_append, List.nil_append, List.zip_cons_cons, List.zip_nil_left, List.zip_nil_right, putsO, putO, Nat.reduceEqDiff, ↓reduceIte]
   try simp only [bS, bA, thenQ, blockQ, noGotoQ]
   refine y0 _ ?_
   try clear y0 Y0
   refine AWp_seqK fun Y0 y0 => ?_
   refine AWp_region ?_
   refine aops_chunk 1 fun Q0 q0 => ?_
   simp only [↓bO, go_sem, seval]
   refine q0 _ ?_
   clear q0 Q0
   simp only [go_sem]
   simp only [↓bO, go_sem, seval]
   refine y0 _ ?_
   try clear y0 Y0
   refine AWp_ret ?_
   try simp only [thenQ, blockQ, noGotoQ, retQ, aRes, tupOf, bS, bA]
   refine ⟨_, aOs { S with F := F1 } (W1), ⟨((F1, W1), fo1), ?_, rfl, rfl⟩, .ptr (by omega), aUnd (by omega) _ _, Le.refl _, ?_, by omega⟩
   · exact .inr ⟨hcs, hX1.1, hX1.2.1, hX1.2.2⟩
   · exact ⟨1, rfl, rfl⟩
theorem Count_c (S : CS) (hS : S.clash = false → CyG S) : CCalls (σ := Bool × Int) 47 [.ptr 0 0] (S) (fun s => s.1 = { S with F := s.1.F } ∧ (S.clash = false → FSame S.F s.1.F) ∧ CountR S s.2) (fun s => .tup [.v (.bool s.1), .v (.int .i64 s.2)]) := by
  refine ACalls.clean (C := fun r os => ∃ s : CS × Bool × Int, (s.1 = { S with F := s.1.F } ∧ (S.clash = false → FSame S.F s.1.F) ∧ CountR S s.2) ∧ r = (fun s : Bool × Int => .tup [.v (.bool s.1), .v (.int .i64 s.2)]) s.2 ∧ os = enumO 0 (cObs s.1)) ?_
  refine ACalls_intro Try.func47 (by kernel_rfl) rfl (by rw [Try.ntmps47]; simp) (fun hm => ?_)
  simp only [Try.ntmps47, Try.results47, List.length_cons, List.length_nil, Nat.reduceAdd, Nat.reduceSub, List.replicate_succ, List.replicate_zero, List.cons_append, List.nil_append]
  simp only [cObs, enumO, Nat.reduceAdd]
  refine AWp_seqK fun Y0 y0 => ?_
  refine AWp_region ?_
  refine aops_chunk 1 fun Q0 q0 => ?_
  simp only [↓bO, go_sem, seval]
  refine q0 _ ?_
  clear q0 Q0
  simp only [go_sem]
  simp only [↓bO, go_sem, seval]
  refine y0 _ ?_
  try clear y0 Y0
  refine AWp_seqK fun Y0 y0 => ?_
  refine AWp_region ?_
  refine aops_chunk 1 fun Q0 q0 => ?_
  simp only [↓bO, go_sem, seval]
  refine q0 _ ?_
  clear q0 Q0
  simp only [go_sem]
  refine aops_chunk 1 fun Q0 q0 => ?_
  simp only [↓bO, go_sem, seval]
  refine ACalls.mono (show ACalls Try.prog 73 _ (enumO 0 (cObs S)) 8 _ from all_c S hS) ?_
  rintro z os' nx' ⟨⟨⟨⟨F1, W1⟩, fo1⟩, hA, rfl, rfl⟩, rfl⟩
  dsimp only
  simp only [aOs, cObs, enumO, Nat.reduceAdd]
  try simp only [bS, bA, thenQ, blockQ, noGotoQ]
  refine q0 _ ?_
  clear q0 Q0
  simp only [go_sem]
  simp only [↓bO, go_sem, seval]
  refine y0 _ ?_
  try clear y0 Y0
  refine AWp_seqK fun Y0 y0 => ?_
  refine AAny_start [(12, 5, [.v (.bool W1.bad)]), (12, 4, [.v (.int .i64 W1.steps)])] 11 rfl mixed (⟨⟨_, _, rfl, by simp, rfl, trivial, trivial⟩, ⟨_, _, rfl, by simp, rfl, trivial, trivial⟩, trivial⟩) rfl ?_
  dsimp only
  refine AAny_takeK 0 rfl (by kernel_rfl) (by kernel_rfl) (by kernel_rfl) (fun _ _ h => h) fun Q0 q0 => ?_
  simp only [↓bO, go_sem, seval]
  refine q0 _ ?_
  clear q0 Q0
  refine AAny_takeK 1 rfl (by kernel_rfl) (by kernel_rfl) (by kernel_rfl) (fun _ _ h => h) fun Q0 q0 => ?_
  simp only [↓bO, go_sem, seval]
  refine q0 _ ?_
  clear q0 Q0
  refine AAny_takeK 2 rfl (by kernel_rfl) (by kernel_rfl) (by kernel_rfl) (fun _ _ h => h) fun Q0 q0 => ?_
  simp only [↓bO, go_sem, seval]
  refine q0 _ ?_
  clear q0 Q0
  refine AAny_loadK 3 0 rfl rfl (by kernel_rfl) (by kernel_rfl) (by kernel_rfl) (fun _ _ h => h) fun Q0 q0 => ?_
  simp only [↓bO, go_sem, seval]
  refine q0 _ ?_
  clear q0 Q0
  refine AAny_takeK 5 rfl (by kernel_rfl) (by kernel_rfl) (by kernel_rfl) (fun _ _ h => h) fun Q0 q0 => ?_
  simp only [↓bO, go_sem, seval]
  refine q0 _ ?_
  clear q0 Q0
  refine AAny_takeK 6 rfl (by kernel_rfl) (by kernel_rfl) (by kernel_rfl) (fun _ _ h => h) fun Q0 q0 => ?_
  simp only [↓bO, go_sem, seval]
  refine q0 _ ?_
  clear q0 Q0
  refine AAny_takeK 7 rfl (by kernel_rfl) (by kernel_rfl) (by kernel_rfl) (fun _ _ h => h) fun Q0 q0 => ?_
  simp only [↓bO, go_sem, seval]
  refine q0 _ ?_
  clear q0 Q0
  refine AAny_loadK 8 1 rfl rfl (by kernel_rfl) (by kernel_rfl) (by kernel_rfl) (fun _ _ h => h) fun Q0 q0 => ?_
  simp only [↓bO, go_sem, seval]
  refine q0 _ ?_
  clear q0 Q0
  refine AAny_all1 (i := 4) (by kernel_rfl) ?_
  ·
   refine aAt_op rfl rfl fun Q0 q0 => ?_
   simp only [↓bO, go_sem, seval]
   refine q0 _ ⟨⟨⟨_, _, rfl, by simp, rfl, trivial, trivial⟩, ⟨_, _, rfl, by simp, rfl, trivial, trivial⟩, trivial⟩, ?_⟩
   clear q0 Q0
   refine AAny_takeK 9 rfl (by kernel_rfl) (by kernel_rfl) (by kernel_rfl) (fun _ _ h => h) fun Q0 q0 => ?_
   simp only [↓bO, go_sem, seval]
   refine q0 _ ?_
   clear q0 Q0
   refine AAny_takeK 10 rfl (by kernel_rfl) (by kernel_rfl) (by kernel_rfl) (fun _ _ h => h) fun Q0 q0 => ?_
   simp only [↓bO, go_sem, seval]
   refine q0 _ ?_
   clear q0 Q0
   refine AAny_done (by kernel_rfl) ?_
   simp only [thenQ, blockQ, noGotoQ]
   refine y0 _ ?_
   try clear y0 Y0
   refine AWp_ret ?_
   try simp only [thenQ, blockQ, noGotoQ, retQ, aRes, tupOf, bS, bA]
   refine ⟨_, enumO 0 (cObs ({ S with F := F1 })), ⟨({ S with F := F1 }, (!W1.bad, W1.steps)), ?_, rfl, rfl⟩, .tup ⟨.v _ _, .v _ _, trivial⟩, cUnd (by omega) _, ?_, ?_, by omega⟩
   · exact ⟨rfl, fun hc => (by rcases hA with ⟨h9, _⟩ | ⟨_, h9, _⟩; (rw [hc] at h9; cases h9); exact h9), hA.count hS⟩
   ·
    exact Le.refl _
   · first | (refine ⟨5, rfl, rfl⟩) | (refine ⟨5, by simp only [cObs, enumO, List.drop_zero, List.drop_succ_cons, Nat.reduceAdd], rfl⟩)
theorem Finite_c (S : CS) (hS : S.clash = false → CyG S) : CCalls (σ := Bool) 41 [.ptr 0 0] (S) (fun s => s.1 = { S with F := s.1.F } ∧ (S.clash = false → FSame S.F s.1.F) ∧ ∃ n, CountR S (s.2, n)) (fun s => .v (.bool s)) := by
  refine ACalls.clean (C := fun r os => ∃ s : CS × Bool, (s.1 = { S with F := s.1.F } ∧ (S.clash = false → FSame S.F s.1.F) ∧ ∃ n, CountR S (s.2, n)) ∧ r = (fun s : Bool => .v (.bool s)) s.2 ∧ os = enumO 0 (cObs s.1)) ?_
  refine ACalls_intro Try.func41 (by kernel_rfl) rfl (by rw [Try.ntmps41]; simp) (fun hm => ?_)
  simp only [Try.ntmps41, Try.results41, List.length_cons, List.length_nil, Nat.reduceAdd, Nat.reduceSub, List.replicate_succ, List.replicate_zero, List.cons_append, List.nil_append]
  simp only [cObs, enumO, Nat.reduceAdd]
  refine AWp_seqK fun Y0 y0 => ?_
  refine AWp_region ?_
  simp only [↓bO, go_sem, seval]
  refine y0 _ ?_
  try clear y0 Y0
  refine AWp_seqK fun Y0 y0 => ?_
  refine AWp_region ?_
  refine aops_chunk 1 fun Q0 q0 => ?_
  simp only [↓bO, go_sem, seval]
  refine q0 _ ?_
  clear q0 Q0
  simp only [go_sem]
  refine aops_chunk 1 fun Q0 q0 => ?_
  simp only [↓bO, go_sem, seval]
  refine CCalls.at (Count_c S hS) (.nil) (fun _ => .tup (.cons (.v _) (.cons (.v _) .nil))) (i0 := 0) (i1 := 1) (i2 := 2) (i3 := 3) (i4 := 4) (i5 := 5) (i6 := 6) (i7 := 7) (by decide) (by simp) ⟨rfl, rfl, rfl, rfl, rfl, rfl, rfl, rfl, trivial⟩ (fun Z1 k1 hX1 => ?_)
  try dsimp only at hX1
  simp only [cObsAt, List.zip_cons_cons, List.zip_nil_left, List.zip_nil_right, putsO, putO, Nat.reduceEqDiff, ↓reduceIte]
  obtain ⟨F1, rfl⟩ : ∃ F, Z1 = { S with F := F } := ⟨Z1.F, hX1.1⟩
  dsimp only at hX1
  try simp only [bS, bA, thenQ, blockQ, noGotoQ]
  iterate 4 (refine q0 _ ?_; clear q0 Q0; simp only [go_sem]; refine aops_chunk 1 fun Q0 q0 => ?_; simp only [↓bO, go_sem, seval])
  refine q0 _ ?_
  clear q0 Q0
  simp only [go_sem]
  simp only [↓bO, go_sem, seval]
  refine y0 _ ?_
  try clear y0 Y0
  refine AWp_seqK fun Y0 y0 => ?_
  refine AWp_region ?_
  refine aops_chunk 1 fun Q0 q0 => ?_
  simp only [↓bO, go_sem, seval]
  refine q0 _ ?_
  clear q0 Q0
  simp only [go_sem]
  simp only [↓bO, go_sem, seval]
  refine y0 _ ?_
  try clear y0 Y0
  refine AWp_ret ?_
  try simp only [thenQ, blockQ, noGotoQ, retQ, aRes, tupOf, bS, bA]
  refine ⟨_, enumO 0 (cObs ({ S with F := F1 })), ⟨({ S with F := F1 }, k1.1), ?_, rfl, rfl⟩, .v _ _, cUnd (by omega) _, ?_, ?_, by omega⟩
  · exact ⟨rfl, hX1.2.1, k1.2, hX1.2.2⟩
  ·
   exact Le.refl _
  · first | (refine ⟨0, rfl, rfl⟩) | (refine ⟨0, by simp only [cObs, enumO, List.drop_zero, List.drop_succ_cons, Nat.reduceAdd], rfl⟩)
end Go.Proofs.Ytjjjckjebkmnjaa
namespace Go.Proofs.Ytjjjckjebkmnjaa
open Go Go.RowKit
set_option maxRecDepth 100000
set_option maxHeartbeats 4000000
set_option linter.unusedSimpArgs false
set_option linter.unusedVariables false
attribute [local irreducible] aops dRun
def sG (sn : List (Int × Bool)) (x : Nat) : Bool := (mfind sn x).getD false
theorem sG_set (sn : List (Int × Bool)) (r x : Nat) : sG (mset sn r true) x = if x = r then true else sG sn x := by
  unfold sG
  rw [mfind_mset]
  by_cases h : x = r
  · subst h; simp
  · rw [if_neg (int_ne h), if_neg h]
structure ReR (K : Nat → List Nat) (W : WS) (r : Nat) (sn sn' : List (Int × Bool)) (b : Bool) : Prop where
  mono : ∀ x, sG sn x = true → sG sn' x = true
  yes : b = true → ∃ v, Rch K r v ∧ W.cg v = true
  no : b = false → sG sn' r = true ∧ (W.cg r = false) ∧ ∀ x, sG sn' x = true → sG sn x = true ∨ (W.cg x = false ∧ ∀ c ∈ K x, sG sn' c = true)
theorem ReR.seen {K : Nat → List Nat} {W : WS} {r : Nat} {sn : List (Int × Bool)} (h : W.cg r = true ∨ sG sn r = true) : ReR K W r sn sn (W.cg r) :=
  ⟨fun _ h => h, fun hb => ⟨r, .refl _, hb⟩, fun hb => ⟨h.resolve_left (by rw [hb]; decide), hb, fun x hx => .inl hx⟩⟩
structure ReL (K : Nat → List Nat) (W : WS) (r : Nat) (sn sn' : List (Int × Bool)) (k : Nat) : Prop where
  mono : ∀ x, sG sn x = true → sG sn' x = true
  self : sG sn' r = true
  done : ∀ (j v : Nat), j < k → (K r)[j]? = some v → sG sn' v = true
  new : ∀ x, sG sn' x = true → sG sn x = true ∨ x = r ∨ (W.cg x = false ∧ ∀ c ∈ K x, sG sn' c = true)
theorem ReL.start (K : Nat → List Nat) (W : WS) (r : Nat) (sn : List (Int × Bool)) : ReL K W r sn (mset sn r true) 0 :=
  ⟨fun x hx => by rw [sG_set]; split <;> simp_all, by rw [sG_set, if_pos rfl], fun j v hj => by omega, fun x hx => by
    rw [sG_set] at hx
    split at hx
    · rename_i e; exact .inr (.inl e)
    · exact .inl hx⟩
theorem ReL.step {K : Nat → List Nat} {W : WS} {r q k : Nat} {sn s1 s2 : List (Int × Bool)} (h : ReL K W r sn s1 k) (hq : (K r)[k]? = some q) (h2 : ReR K W q s1 s2 false) : ReL K W r sn s2 (k + 1) := by
  obtain ⟨n1, n2, n3⟩ := h2.no rfl
  refine ⟨fun x hx => h2.mono x (h.mono x hx), h2.mono r h.self, fun j v hj hv => ?_, fun x hx => ?_⟩
  · rcases Nat.lt_or_ge j k with h9 | h9
    · exact h2.mono v (h.done j v h9 hv)
    · obtain rfl : j = k := by omega
      rw [hq] at hv; cases hv; exact n1
  · rcases n3 x hx with h9 | h9
    · rcases h.new x h9 with h8 | h8 | ⟨h8, h7⟩
      · exact .inl h8
      · exact .inr (.inl h8)
      · exact .inr (.inr ⟨h8, fun c hc => h2.mono c (h7 c hc)⟩)
    · exact .inr (.inr h9)
theorem ReL.yes {K : Nat → List Nat} {W : WS} {r q k : Nat} {sn s1 s2 : List (Int × Bool)} (h : ReL K W r sn s1 k) (hq : (K r)[k]? = some q) (h2 : ReR K W q s1 s2 true) : ReR K W r sn s2 true := by
  obtain ⟨v, hv, hm⟩ := h2.yes rfl
  exact ⟨fun x hx => h2.mono x (h.mono x hx), fun _ => ⟨v, .step (List.mem_of_getElem? hq) hv, hm⟩, fun hb => by cases hb⟩
theorem ReL.fin {K : Nat → List Nat} {W : WS} {r k : Nat} {sn s1 : List (Int × Bool)} (h : ReL K W r sn s1 k) (hk : (K r).length ≤ k) (hr : W.cg r = false) : ReR K W r sn s1 false := by
  have hall : ∀ c ∈ K r, sG s1 c = true := fun c hc => by
    obtain ⟨j, hj, e⟩ := List.mem_iff_getElem.1 hc
    exact h.done j c (by omega) (by rw [List.getElem?_eq_getElem hj, e])
  refine ⟨h.mono, fun hb => (by cases hb), fun _ => ⟨h.self, hr, fun x hx => ?_⟩⟩
  rcases h.new x hx with h8 | rfl | h8
  · exact .inl h8
  · exact .inr ⟨hr, hall⟩
  · exact .inr h8
def uns (N : Nat) (sn : List (Int × Bool)) : Nat := (List.range N).countP fun x => !sG sn x
theorem uns_le {N : Nat} {s1 s2 : List (Int × Bool)} (h : ∀ x, sG s1 x = true → sG s2 x = true) : uns N s2 ≤ uns N s1 :=
  List.countP_mono_left fun x _ hx => by
    cases hs : sG s1 x with
    | false => rfl
    | true => rw [h x hs] at hx; cases hx
theorem uns_set {N r : Nat} {sn : List (Int × Bool)} (hr : r < N) (hn : sG sn r = false) : uns N (mset sn r true) < uns N sn := by
  refine countP_lt (fun x _ hx => ?_) ⟨r, by simpa using hr, by rw [hn]; rfl, by rw [sG_set, if_pos rfl]; rfl⟩
  rw [sG_set] at hx
  split at hx
  · cases hx
  · exact hx
theorem yUnd {n : Nat} (h : 14 ≤ n) (S : CS) (W : WS) (sn : List (Int × Bool)) : UndOs n (enumO 0 (cObs S ++ wObs W ++ [.map (mC cB sn)])) := by
  have h1 := wUnd (n := n) (by omega) S W
  obtain ⟨a0, a1, b0, b1, c0, c1, d0, d1, e0, e1, f0, f1, g0, g1, i0, i1, j0, j1, k0, k1, l0, l1, m0, m1, o0, o1, _⟩ := h1
  exact ⟨a0, a1, b0, b1, c0, c1, d0, d1, e0, e1, f0, f1, g0, g1, i0, i1, j0, j1, k0, k1, l0, l1, m0, m1, o0, o1, by omega, fun p hp => .data (mC_dataB _ p hp), trivial⟩
def YCalls (f : Nat) (args : List AV) (S : CS) (W : WS) (sn : List (Int × Bool)) (C : (FS × WS) × List (Int × Bool) × Bool → Prop) : Prop :=
  ACalls Try.prog f args (enumO 0 (cObs S ++ wObs W ++ [.map (mC cB sn)])) 14 fun z os n => (∃ s : (FS × WS) × List (Int × Bool) × Bool, C s ∧ z = (fun s : List (Int × Bool) × Bool => .v (.bool s.2)) s.2 ∧ os = enumO 0 (cObs { S with F := s.1.1 } ++ wObs s.1.2 ++ [.map (mC cB s.2.1)])) ∧ n = 14
theorem YCalls.at {f : Nat} {args args' : List AV} {S : CS} {W : WS} {sn : List (Int × Bool)} {C : (FS × WS) × List (Int × Bool) × Bool → Prop} (h : YCalls f args S W sn C) {m : Nat} {os' : Os} {nx' : Nat} (hm : 13 ≤ m)
    (ha : RenL (renOf [0, 1, 2, 3, 4, 5, 6, 7, 8, 9, 10, 11, 12, m] nx') args args') (hlt : m < nx') (hg : GetsO os' [0, 1, 2, 3, 4, 5, 6, 7, 8, 9, 10, 11, 12, m] (cObs S ++ wObs W ++ [.map (mC cB sn)])) {Q' : AV → Os → Nat → Prop}
    (hq : ∀ (F1 : FS) (W1 : WS) (s : List (Int × Bool)) (b : Bool), C ((F1, W1), s, b) → Q' (.v (.bool b)) (putsO os' ([0, 1, 2, 3, 4, 5, 6, 7, 8, 9, 10, 11, 12, m].zip (cObs { S with F := F1 } ++ wObs W1 ++ [.map (mC cB s)]))) nx') : ACalls Try.prog f args' os' nx' Q' := by
  have ren : ∀ (S : CS) (W : WS) (sn : List (Int × Bool)), RenOs (renOf [0, 1, 2, 3, 4, 5, 6, 7, 8, 9, 10, 11, 12, m] nx') 0 (cObs S ++ wObs W ++ [.map (mC cB sn)]) (cObs S ++ wObs W ++ [.map (mC cB sn)]) := fun S W sn =>
    ⟨.cells ⟨.v _, .ptr rfl, .ptr rfl, .own rfl, .v _, trivial⟩, .cells ⟨.osl rfl (GNode.dataRows S.G.N), .map rfl, trivial⟩, .tok, .map (vC_data S.G.V), .cells ⟨.own rfl, .own rfl, .v _, .v _, trivial⟩, .row (nC_data _), .row (iC_data _), .row (iC_data _),
      .map (mC_dataI _), .map (mC_dataB _), .map (mC_dataI _), .map (mC_dataI _), .cells ⟨.map rfl, .map rfl, .map rfl, .map rfl, .v _, .v _, trivial⟩, .map (mC_dataB _), trivial⟩
  refine ACalls.atE (σ := (FS × WS) × List (Int × Bool) × Bool) (C := C) (args := args) (R := fun s => .v (.bool s.2.2)) (R' := fun s => .v (.bool s.2.2)) (obs := cObs S ++ wObs W ++ [.map (mC cB sn)]) (obs1 := fun s => cObs { S with F := s.1.1 } ++ wObs s.1.2 ++ [.map (mC cB s.2.1)]) (obs' := cObs S ++ wObs W ++ [.map (mC cB sn)]) (obs1' := fun s => cObs { S with F := s.1.1 } ++ wObs s.1.2 ++ [.map (mC cB s.2.1)]) [0, 1, 2, 3, 4, 5, 6, 7, 8, 9, 10, 11, 12, m]
    (by unfold YCalls at h; exact h) rfl (fun _ => rfl) ?_ (by simp only [List.mem_cons, List.not_mem_nil, or_false]; omega) ha (fun s => .v _) (ren S W sn) hg (fun s => ren _ s.1.2 s.2.1) (fun s hs => hq s.1.1 s.1.2 s.2.1 s.2.2 hs)
  have hne : ∀ k, k < 13 → k ≠ m := fun k hk => by omega
  simp [List.nodup_cons]
  omega
theorem reaches_c : ∀ (n : Nat) (S : CS) (hS : CyG S) (W : WS) (sn : List (Int × Bool)) (hn : uns S.F.up.length sn ≤ n) (r : Nat) (hr : Rt S.F.up r r), YCalls 76 [.ptr 12 0, .agg [.ptr 0 0, .v (.int .i64 (r : Int))], .map 13] S W sn (fun s => FSame S.F s.1.1 ∧ s.1.2 = W ∧ ReR (kids S) W r sn s.2.1 s.2.2) := by
  intro n
  induction n using Nat.strongRecOn with
  | ind n ih =>
  intro S hS W sn hn r hr
  refine ACalls.clean (C := fun zr zo => ∃ s : (FS × WS) × List (Int × Bool) × Bool, (FSame S.F s.1.1 ∧ s.1.2 = W ∧ ReR (kids S) W r sn s.2.1 s.2.2) ∧ zr = (fun s : List (Int × Bool) × Bool => .v (.bool s.2)) s.2 ∧ zo = enumO 0 (cObs { S with F := s.1.1 } ++ wObs s.1.2 ++ [.map (mC cB s.2.1)])) ?_
  refine ACalls_intro Try.func76 (by kernel_rfl) rfl (by rw [Try.ntmps76]; simp) (fun hm => ?_)
  simp only [Try.ntmps76, Try.results76, List.length_cons, List.length_nil, Nat.reduceAdd, Nat.reduceSub, List.replicate_succ, List.replicate_zero, List.cons_append, List.nil_append]
  simp only [cObs, wObs, List.cons_append, List.nil_append, enumO, Nat.reduceAdd]
  have hrl := hr.lt
  have hfl := hS.c.fl
  obtain ⟨x, hx⟩ : ∃ x, S.W[r]? = some x := ⟨_, List.getElem?_eq_getElem (by omega)⟩
  refine AWp_seqK fun Y0 y0 => ?_
  refine AWp_region ?_
  refine aops_chunk 1 fun Q0 q0 => ?_
  simp only [↓bO, go_sem, seval, look_I, look_B, upd_I, upd_B]
  refine q0 _ ?_
  clear q0 Q0
  simp only [go_sem]
  simp only [↓bO, go_sem, seval, look_I, look_B, upd_I, upd_B]
  refine y0 _ ?_
  try clear y0 Y0
  refine AWp_seqK fun Y0 y0 => ?_
  refine AWp_seqK fun Y1 y1 => ?_
  refine AAny_start [(12, 1, [.map 9]), (14, 0, [.ptr 0 0, .v (.int .i64 (r : Int))])] 13 rfl mixed (⟨⟨_, _, rfl, by simp, rfl, trivial, trivial⟩, ⟨_, _, rfl, by simp, rfl, trivial, trivial, trivial⟩, trivial⟩) rfl ?_
  dsimp only
  refine AAny_takeK 0 rfl (by kernel_rfl) (by kernel_rfl) (by kernel_rfl) (fun _ _ h => h) fun Q0 q0 => ?_
  simp only [↓bO, go_sem, seval, look_I, look_B, upd_I, upd_B]
  refine q0 _ ?_
  clear q0 Q0
  refine AAny_takeK 1 rfl (by kernel_rfl) (by kernel_rfl) (by kernel_rfl) (fun _ _ h => h) fun Q0 q0 => ?_
  simp only [↓bO, go_sem, seval, look_I, look_B, upd_I, upd_B]
  refine q0 _ ?_
  clear q0 Q0
  refine AAny_takeK 2 rfl (by kernel_rfl) (by kernel_rfl) (by kernel_rfl) (fun _ _ h => h) fun Q0 q0 => ?_
  simp only [↓bO, go_sem, seval, look_I, look_B, upd_I, upd_B]
  refine q0 _ ?_
  clear q0 Q0
  refine AAny_loadK 3 0 rfl rfl (by kernel_rfl) (by kernel_rfl) (by kernel_rfl) (fun _ _ h => h) fun Q0 q0 => ?_
  simp only [↓bO, go_sem, seval, look_I, look_B, upd_I, upd_B]
  refine q0 _ ?_
  clear q0 Q0
  refine AAny_loadK 4 1 rfl rfl (by kernel_rfl) (by kernel_rfl) (by kernel_rfl) (fun _ _ h => h) fun Q0 q0 => ?_
  simp only [↓bO, go_sem, seval, look_I, look_B, upd_I, upd_B]
  refine q0 _ ?_
  clear q0 Q0
  refine AAny_all1 (i := 5) (by kernel_rfl) ?_
  ·
   refine aAt_op rfl rfl fun Q0 q0 => ?_
   simp only [↓bO, go_sem, seval, look_I, look_B, upd_I, upd_B]
   refine CCalls.atP (PId_c (S) (r : Int)) (i0 := 0) (i1 := 1) (i2 := 2) (i3 := 3) (i4 := 4) (i5 := 5) (i6 := 6) (i7 := 7) (by exact ⟨.agg ⟨.ptr rfl, .v _, trivial⟩, trivial⟩) (fun _ => by exact .v _) (by decide) (by simp) ⟨rfl, rfl, rfl, rfl, rfl, rfl, rfl, rfl, trivial⟩ (fun Z14 u14 hZ14 => ?_)
   try dsimp only at hZ14
   simp only [cObsAt, List.zip_cons_cons, List.zip_nil_left, List.zip_nil_right, putsO, putO, Nat.reduceEqDiff, ↓reduceIte]
   obtain rfl : S = Z14 := hZ14.symm
   try simp only [bS, bA]
   refine q0 _ ⟨⟨⟨_, _, rfl, by simp, rfl, trivial, trivial⟩, ⟨_, _, rfl, by simp, rfl, trivial, trivial, trivial⟩, trivial⟩, ?_⟩
   clear q0 Q0
   refine AAny_all1 (i := 6) (by kernel_rfl) ?_
   ·
    refine aAt_op rfl rfl fun Q0 q0 => ?_
    simp only [↓bO, go_sem, seval, look_I, look_B, upd_I, upd_B]
    refine q0 _ ⟨⟨⟨_, _, rfl, by simp, rfl, trivial, trivial⟩, ⟨_, _, rfl, by simp, rfl, trivial, trivial, trivial⟩, trivial⟩, ?_⟩
    clear q0 Q0
    refine AAny_takeK 7 rfl (by kernel_rfl) (by kernel_rfl) (by kernel_rfl) (fun _ _ h => h) fun Q0 q0 => ?_
    simp only [↓bO, go_sem, seval, look_I, look_B, upd_I, upd_B]
    refine q0 _ ?_
    clear q0 Q0
    refine AAny_case 16 rfl (fun hc16 => ?_) (fun hc16 => ?_)
    ·
     simp only [List.set_cons_zero, List.set_cons_succ]
     have hc1 : W.cg r = true := hc16
     have hcs : W.cg r = true ∨ sG sn r = true := .inl hc1
     refine AAny_skipG 8 rfl (by kernel_rfl) (by kernel_rfl) (by kernel_rfl) (fun _ _ h => h) (by kernel_rfl) ?_
     simp only [bS, bA]
     refine AAny_skipG 9 rfl (by kernel_rfl) (by kernel_rfl) (by kernel_rfl) (fun _ _ h => h) (by kernel_rfl) ?_
     simp only [bS, bA]
     refine AAny_skipG 10 rfl (by kernel_rfl) (by kernel_rfl) (by kernel_rfl) (fun _ _ h => h) (by kernel_rfl) ?_
     simp only [bS, bA]
     refine AAny_skipG 11 rfl (by kernel_rfl) (by kernel_rfl) (by kernel_rfl) (fun _ _ h => h) (by kernel_rfl) ?_
     simp only [bS, bA]
     refine AAny_all1 (i := 12) (by kernel_rfl) ?_
     ·
      refine aAt_op rfl rfl fun Q0 q0 => ?_
      simp only [↓bO, go_sem, seval, look_I, look_B, upd_I, upd_B]
      refine q0 _ ⟨⟨⟨_, _, rfl, by simp, rfl, trivial, trivial⟩, ⟨_, _, rfl, by simp, rfl, trivial, trivial, trivial⟩, trivial⟩, ?_⟩
      clear q0 Q0
      refine AAny_done (by kernel_rfl) ?_
      simp only [thenQ, blockQ, noGotoQ]
      refine y1 _ ?_
      try clear y1 Y1
      refine AWp_cond (b := true) (by first | exact rfl | exact congrArg (fun b => AV.v (.bool b)) hb21) (fun _ => ?_) (fun h => (by cases h))
      refine AWp_seqK fun Y1 y1 => ?_
      refine AAny_start [(12, 1, [.map 9]), (14, 0, [.ptr 0 0, .v (.int .i64 (r : Int))])] 8 rfl mixed (⟨⟨_, _, rfl, by simp, rfl, trivial, trivial⟩, ⟨_, _, rfl, by simp, rfl, trivial, trivial, trivial⟩, trivial⟩) rfl ?_
      dsimp only
      refine AAny_takeK 0 rfl (by kernel_rfl) (by kernel_rfl) (by kernel_rfl) (fun _ _ h => h) fun Q0 q0 => ?_
      simp only [↓bO, go_sem, seval, look_I, look_B, upd_I, upd_B]
      refine q0 _ ?_
      clear q0 Q0
      refine AAny_takeK 1 rfl (by kernel_rfl) (by kernel_rfl) (by kernel_rfl) (fun _ _ h => h) fun Q0 q0 => ?_
      simp only [↓bO, go_sem, seval, look_I, look_B, upd_I, upd_B]
      refine q0 _ ?_
      clear q0 Q0
      refine AAny_takeK 2 rfl (by kernel_rfl) (by kernel_rfl) (by kernel_rfl) (fun _ _ h => h) fun Q0 q0 => ?_
      simp only [↓bO, go_sem, seval, look_I, look_B, upd_I, upd_B]
      refine q0 _ ?_
      clear q0 Q0
      refine AAny_loadK 3 0 rfl rfl (by kernel_rfl) (by kernel_rfl) (by kernel_rfl) (fun _ _ h => h) fun Q0 q0 => ?_
      simp only [↓bO, go_sem, seval, look_I, look_B, upd_I, upd_B]
      refine q0 _ ?_
      clear q0 Q0
      refine AAny_loadK 4 1 rfl rfl (by kernel_rfl) (by kernel_rfl) (by kernel_rfl) (fun _ _ h => h) fun Q0 q0 => ?_
      simp only [↓bO, go_sem, seval, look_I, look_B, upd_I, upd_B]
      refine q0 _ ?_
      clear q0 Q0
      refine AAny_all1 (i := 5) (by kernel_rfl) ?_
      ·
       refine aAt_op rfl rfl fun Q0 q0 => ?_
       simp only [↓bO, go_sem, seval, look_I, look_B, upd_I, upd_B]
       refine CCalls.atP (PId_c (S) (r : Int)) (i0 := 0) (i1 := 1) (i2 := 2) (i3 := 3) (i4 := 4) (i5 := 5) (i6 := 6) (i7 := 7) (by exact ⟨.agg ⟨.ptr rfl, .v _, trivial⟩, trivial⟩) (fun _ => by exact .v _) (by decide) (by simp) ⟨rfl, rfl, rfl, rfl, rfl, rfl, rfl, rfl, trivial⟩ (fun Z27 u27 hZ27 => ?_)
       try dsimp only at hZ27
       simp only [cObsAt, List.zip_cons_cons, List.zip_nil_left, List.zip_nil_right, putsO, putO, Nat.reduceEqDiff, ↓reduceIte]
       obtain rfl : S = Z27 := hZ27.symm
       try simp only [bS, bA]
       refine q0 _ ⟨⟨⟨_, _, rfl, by simp, rfl, trivial, trivial⟩, ⟨_, _, rfl, by simp, rfl, trivial, trivial, trivial⟩, trivial⟩, ?_⟩
       clear q0 Q0
       refine AAny_all1 (i := 6) (by kernel_rfl) ?_
       ·
        refine aAt_op rfl rfl fun Q0 q0 => ?_
        simp only [↓bO, go_sem, seval, look_I, look_B, upd_I, upd_B]
        refine q0 _ ⟨⟨⟨_, _, rfl, by simp, rfl, trivial, trivial⟩, ⟨_, _, rfl, by simp, rfl, trivial, trivial, trivial⟩, trivial⟩, ?_⟩
        clear q0 Q0
        refine AAny_takeK 7 rfl (by kernel_rfl) (by kernel_rfl) (by kernel_rfl) (fun _ _ h => h) fun Q0 q0 => ?_
        simp only [↓bO, go_sem, seval, look_I, look_B, upd_I, upd_B]
        refine q0 _ ?_
        clear q0 Q0
        refine AAny_done (by kernel_rfl) ?_
        simp only [thenQ, blockQ, noGotoQ]
        refine y1 _ ?_
        try clear y1 Y1
        refine AWp_ret ?_
        try simp only [thenQ, blockQ, noGotoQ, retQ, aRes, tupOf, bS, bA]
        refine ⟨_, enumO 0 (cObs { S with F := S.F } ++ wObs W ++ [.map (mC cB sn)]), ⟨((S.F, W), sn, W.cg r), ?_, rfl, rfl⟩, .v _ _, yUnd (by omega) _ _ _, ?_, ?_, by omega⟩
        · exact ⟨FSame.refl hS.c.f, rfl, ReR.seen (by first | exact hcs2 | exact hcs)⟩
        · exact Le.refl _
        · first | (exact ⟨2, rfl, rfl⟩) | (exact ⟨1, rfl, rfl⟩) | (exact ⟨0, rfl, rfl⟩)
    ·
     simp only [List.set_cons_zero, List.set_cons_succ]
     have hc1 : W.cg r = false := hc16
     refine AAny_takeG 8 rfl (by kernel_rfl) (by kernel_rfl) (by kernel_rfl) (fun _ _ h => h) (by kernel_rfl) fun Q0 q0 => ?_
     simp only [↓bO, go_sem, seval, look_I, look_B, upd_I, upd_B]
     refine q0 _ ?_
     clear q0 Q0
     refine AAny_loadGK 9 1 rfl rfl (by kernel_rfl) (by kernel_rfl) (by kernel_rfl) (fun _ _ h => h) (by kernel_rfl) fun Q0 q0 => ?_
     simp only [↓bO, go_sem, seval, look_I, look_B, upd_I, upd_B]
     refine q0 _ ?_
     clear q0 Q0
     refine AAny_all1 (i := 10) (by kernel_rfl) ?_
     ·
      refine aAt_if rfl fun Q0 q0 => ?_
      simp only [↓bO, go_sem, seval, look_I, look_B, upd_I, upd_B]
      refine CCalls.atP (PId_c (S) (r : Int)) (i0 := 0) (i1 := 1) (i2 := 2) (i3 := 3) (i4 := 4) (i5 := 5) (i6 := 6) (i7 := 7) (by exact ⟨.agg ⟨.ptr rfl, .v _, trivial⟩, trivial⟩) (fun _ => by exact .v _) (by decide) (by simp) ⟨rfl, rfl, rfl, rfl, rfl, rfl, rfl, rfl, trivial⟩ (fun Z19 u19 hZ19 => ?_)
      try dsimp only at hZ19
      simp only [cObsAt, List.zip_cons_cons, List.zip_nil_left, List.zip_nil_right, putsO, putO, Nat.reduceEqDiff, ↓reduceIte]
      obtain rfl : S = Z19 := hZ19.symm
      try simp only [bS, bA]
      refine q0 _ ⟨⟨⟨_, _, rfl, by simp, rfl, trivial, trivial⟩, ⟨_, _, rfl, by simp, rfl, trivial, trivial, trivial⟩, trivial⟩, ?_⟩
      clear q0 Q0
      refine AAny_all1 (i := 11) (by kernel_rfl) ?_
      ·
       refine aAt_if rfl fun Q0 q0 => ?_
       simp only [↓bO, go_sem, seval, look_I, look_B, upd_I, upd_B]
       refine q0 _ ⟨⟨⟨_, _, rfl, by simp, rfl, trivial, trivial⟩, ⟨_, _, rfl, by simp, rfl, trivial, trivial, trivial⟩, trivial⟩, ?_⟩
       clear q0 Q0
       refine AAny_all1 (i := 12) (by kernel_rfl) ?_
       ·
        refine aAt_op rfl rfl fun Q0 q0 => ?_
        simp only [↓bO, go_sem, seval, look_I, look_B, upd_I, upd_B]
        refine q0 _ ⟨⟨⟨_, _, rfl, by simp, rfl, trivial, trivial⟩, ⟨_, _, rfl, by simp, rfl, trivial, trivial, trivial⟩, trivial⟩, ?_⟩
        clear q0 Q0
        refine AAny_done (by kernel_rfl) ?_
        simp only [thenQ, blockQ, noGotoQ]
        refine y1 _ ?_
        try clear y1 Y1
        refine AWp_cond rfl (fun hb21 => ?_) (fun hb21 => ?_)
        ·
         have hcs2 : W.cg r = true ∨ sG sn r = true := by (first | exact hcs | exact .inr hb21)
         refine AWp_seqK fun Y1 y1 => ?_
         refine AAny_start [(12, 1, [.map 9]), (14, 0, [.ptr 0 0, .v (.int .i64 (r : Int))])] 8 rfl mixed (⟨⟨_, _, rfl, by simp, rfl, trivial, trivial⟩, ⟨_, _, rfl, by simp, rfl, trivial, trivial, trivial⟩, trivial⟩) rfl ?_
         dsimp only
         refine AAny_takeK 0 rfl (by kernel_rfl) (by kernel_rfl) (by kernel_rfl) (fun _ _ h => h) fun Q0 q0 => ?_
         simp only [↓bO, go_sem, seval, look_I, look_B, upd_I, upd_B]
         refine q0 _ ?_
         clear q0 Q0
         refine AAny_takeK 1 rfl (by kernel_rfl) (by kernel_rfl) (by kernel_rfl) (fun _ _ h => h) fun Q0 q0 => ?_
         simp only [↓bO, go_sem, seval, look_I, look_B, upd_I, upd_B]
         refine q0 _ ?_
         clear q0 Q0
         refine AAny_takeK 2 rfl (by kernel_rfl) (by kernel_rfl) (by kernel_rfl) (fun _ _ h => h) fun Q0 q0 => ?_
         simp only [↓bO, go_sem, seval, look_I, look_B, upd_I, upd_B]
         refine q0 _ ?_
         clear q0 Q0
         refine AAny_loadK 3 0 rfl rfl (by kernel_rfl) (by kernel_rfl) (by kernel_rfl) (fun _ _ h => h) fun Q0 q0 => ?_
         simp only [↓bO, go_sem, seval, look_I, look_B, upd_I, upd_B]
         refine q0 _ ?_
         clear q0 Q0
         refine AAny_loadK 4 1 rfl rfl (by kernel_rfl) (by kernel_rfl) (by kernel_rfl) (fun _ _ h => h) fun Q0 q0 => ?_
         simp only [↓bO, go_sem, seval, look_I, look_B, upd_I, upd_B]
         refine q0 _ ?_
         clear q0 Q0
         refine AAny_all1 (i := 5) (by kernel_rfl) ?_
         ·
          refine aAt_op rfl rfl fun Q0 q0 => ?_
          simp only [↓bO, go_sem, seval, look_I, look_B, upd_I, upd_B]
          refine CCalls.atP (PId_c (S) (r : Int)) (i0 := 0) (i1 := 1) (i2 := 2) (i3 := 3) (i4 := 4) (i5 := 5) (i6 := 6) (i7 := 7) (by exact ⟨.agg ⟨.ptr rfl, .v _, trivial⟩, trivial⟩) (fun _ => by exact .v _) (by decide) (by simp) ⟨rfl, rfl, rfl, rfl, rfl, rfl, rfl, rfl, trivial⟩ (fun Z27 u27 hZ27 => ?_)
          try dsimp only at hZ27
          simp only [cObsAt, List.zip_cons_cons, List.zip_nil_left, List.zip_nil_right, putsO, putO, Nat.reduceEqDiff, ↓reduceIte]
          obtain rfl : S = Z27 := hZ27.symm
          try simp only [bS, bA]
          refine q0 _ ⟨⟨⟨_, _, rfl, by simp, rfl, trivial, trivial⟩, ⟨_, _, rfl, by simp, rfl, trivial, trivial, trivial⟩, trivial⟩, ?_⟩
          clear q0 Q0
          refine AAny_all1 (i := 6) (by kernel_rfl) ?_
          ·
           refine aAt_op rfl rfl fun Q0 q0 => ?_
           simp only [↓bO, go_sem, seval, look_I, look_B, upd_I, upd_B]
           refine q0 _ ⟨⟨⟨_, _, rfl, by simp, rfl, trivial, trivial⟩, ⟨_, _, rfl, by simp, rfl, trivial, trivial, trivial⟩, trivial⟩, ?_⟩
           clear q0 Q0
           refine AAny_takeK 7 rfl (by kernel_rfl) (by kernel_rfl) (by kernel_rfl) (fun _ _ h => h) fun Q0 q0 => ?_
           simp only [↓bO, go_sem, seval, look_I, look_B, upd_I, upd_B]
           refine q0 _ ?_
           clear q0 Q0
           refine AAny_done (by kernel_rfl) ?_
           simp only [thenQ, blockQ, noGotoQ]
           refine y1 _ ?_
           try clear y1 Y1
           refine AWp_ret ?_
           try simp only [thenQ, blockQ, noGotoQ, retQ, aRes, tupOf, bS, bA]
           refine ⟨_, enumO 0 (cObs { S with F := S.F } ++ wObs W ++ [.map (mC cB sn)]), ⟨((S.F, W), sn, W.cg r), ?_, rfl, rfl⟩, .v _ _, yUnd (by omega) _ _ _, ?_, ?_, by omega⟩
           · exact ⟨FSame.refl hS.c.f, rfl, ReR.seen (by first | exact hcs2 | exact hcs)⟩
           · exact Le.refl _
           · first | (exact ⟨2, rfl, rfl⟩) | (exact ⟨1, rfl, rfl⟩) | (exact ⟨0, rfl, rfl⟩)
        ·
         have hns : sG sn r = false := by (first | exact hb21 | (exfalso; rw [hc1] at hb21; cases hb21))
         refine AWp_skip ?_
         try simp only [thenQ, blockQ, noGotoQ]
         refine y0 _ ?_
         try clear y0 Y0
         refine AWp_seqK fun Y0 y0 => ?_
         refine AWp_region ?_
         iterate 2 (refine aops_chunk 1 fun Q0 q0 => ?_; simp only [↓bO, go_sem, seval, look_I, look_B, upd_I, upd_B]; refine q0 _ ?_; clear q0 Q0; simp only [go_sem])
         refine aops_chunk 1 fun Q0 q0 => ?_
         simp only [↓bO, go_sem, seval, look_I, look_B, upd_I, upd_B]
         refine CCalls.atP (PId_c (S) (r : Int)) (i0 := 0) (i1 := 1) (i2 := 2) (i3 := 3) (i4 := 4) (i5 := 5) (i6 := 6) (i7 := 7) (by exact ⟨.agg ⟨.ptr rfl, .v _, trivial⟩, trivial⟩) (fun _ => by exact .v _) (by decide) (by simp) ⟨rfl, rfl, rfl, rfl, rfl, rfl, rfl, rfl, trivial⟩ (fun Z31 u31 hZ31 => ?_)
         try dsimp only at hZ31
         simp only [cObsAt, List.zip_cons_cons, List.zip_nil_left, List.zip_nil_right, putsO, putO, Nat.reduceEqDiff, ↓reduceIte]
         obtain rfl : S = Z31 := hZ31.symm
         try simp only [bS, bA, thenQ, blockQ, noGotoQ]
         refine q0 _ ?_
         clear q0 Q0
         simp only [go_sem]
         simp only [↓bO, go_sem, seval, look_I, look_B, upd_I, upd_B]
         refine y0 _ ?_
         try clear y0 Y0
         refine AWp_seqK fun Y0 y0 => ?_
         refine AWp_seqK fun Y1 y1 => ?_
         refine AWp_region ?_
         refine aops_chunk 1 fun Q0 q0 => ?_
         simp only [↓bO, go_sem, seval, look_I, look_B, upd_I, upd_B]
         refine q0 _ ?_
         clear q0 Q0
         simp only [go_sem]
         refine aops_chunk 1 fun Q0 q0 => ?_
         simp only [↓bO, go_sem, seval, look_I, look_B, upd_I, upd_B]
         refine CCalls.atP (R' := fun s => .sl 2 (s.map (partC 0))) (PParts_c S hS.c.f hS.c.pl hS.c.wr r x hx (hS.g0 r x hr hx)) (i0 := 0) (i1 := 1) (i2 := 2) (i3 := 3) (i4 := 4) (i5 := 5) (i6 := 6) (i7 := 7) (by exact ⟨.agg ⟨.ptr rfl, .v _, trivial⟩, trivial⟩) (fun _ => by exact .parts rfl _) (by decide) (by simp) ⟨rfl, rfl, rfl, rfl, rfl, rfl, rfl, rfl, trivial⟩ (fun Z4 rs hZ4 => ?_)
         try dsimp only at hZ4
         simp only [cObsAt, List.zip_cons_cons, List.zip_nil_left, List.zip_nil_right, putsO, putO, Nat.reduceEqDiff, ↓reduceIte]
         obtain ⟨F2, rfl⟩ : ∃ F2, Z4 = { S with F := F2 } := ⟨Z4.F, hZ4.2.1⟩
         have hF2 : FSame S.F F2 := hZ4.1
         have hkd : kids S r = rs := kids_eq ⟨x, hx, hZ4.2.2⟩
         have hk8 : rs.length ≤ 8 := by rw [← hkd]; exact kids_len hS r
         try simp only [bS, bA, thenQ, blockQ, noGotoQ]
         refine q0 _ ?_
         clear q0 Q0
         simp only [go_sem]
         refine aops_chunk 1 fun Q0 q0 => ?_
         simp only [↓bO, go_sem, seval, look_I, look_B, upd_I, upd_B]
         refine q0 _ ?_
         clear q0 Q0
         simp only [go_sem]
         simp only [↓bO, go_sem, seval, look_I, look_B, upd_I, upd_B]
         refine y1 _ ?_
         try clear y1 Y1
         refine AWp_block ?_
         refine AWp_loopM (σ := FS × List (Int × Bool) × Nat) (mB 44 60129542149) (fun s => FSame S.F s.1 ∧ ReL (kids S) W r sn s.2.1 s.2.2 ∧ s.2.2 ≤ rs.length) (fun s => [(35, .v (.int .i64 (s.2.2 : Int)))]) (fun s => [(4, .cells 115 [.own 5 s.1.up.length, .own 6 s.1.rank.length, .v (.int .i64 s.1.sets), .v (.int .i64 s.1.steps)]), (5, .row 3 1 (s.1.up.map nC)), (6, .row 3 1 (s.1.rank.map intC)), (13, .map (mC cB s.2.1))]) (fun s => rs.length - s.2.2) (F2, mset sn r true, 0) (⟨hF2, ReL.start _ _ _ _, Nat.zero_le _⟩) ?_ (fun s hs => ?_)
         ·
          simp only [maskL, setsL, putsO, putO, mB, List.set_cons_zero, List.set_cons_succ, seval]
          exact Weak.mk (by simp only [go_sem, Le.refl, Le.any, Le.slNil, Int.natCast_add, Int.cast_ofNat_Int, Int.natCast_one]) (fun _ _ h => h) rfl rfl
         simp only [maskL, setsL, putsO, putO, mB, List.set_cons_zero, List.set_cons_succ, seval]
         refine AWp_seqK fun Y1 y1 => ?_
         refine AWp_region ?_
         simp only [↓bO, go_sem, seval, look_I, look_B, upd_I, upd_B]
         refine y1 _ ?_
         try clear y1 Y1
         refine AWp_seqK fun Y1 y1 => ?_
         refine AWp_cond rfl (fun hb36 => ?_) (fun hb36 => ?_)
         ·
          have hk : s.2.2 < rs.length := by simpa using hb36
          obtain ⟨q, hq⟩ : ∃ q, rs[s.2.2]? = some q := ⟨_, List.getElem?_eq_getElem hk⟩
          have hrq : Rt S.F.up q q := kids_root r q (by rw [hkd]; exact List.mem_of_getElem? hq)
          have hw1 : IntKind.i64.wrap ((s.2.2 : Int) + 1) = (s.2.2 : Int) + 1 := wrap_in (by omega) (by omega)
          refine AWp_skip ?_
          try simp only [thenQ, blockQ, noGotoQ]
          refine y1 _ ?_
          try clear y1 Y1
          refine AWp_seqK fun Y1 y1 => ?_
          refine AWp_block ?_
          refine AWp_seqK fun Y2 y2 => ?_
          refine AWp_region ?_
          iterate 3 (refine aops_chunk 1 fun Q0 q0 => ?_; simp only [↓bO, go_sem, seval, look_I, look_B, upd_I, upd_B, hk, gM hq, partC, hw1, Int.natCast_add]; refine q0 _ ?_; clear q0 Q0; simp only [go_sem])
          simp only [↓bO, go_sem, seval, look_I, look_B, upd_I, upd_B, hk, gM hq, partC, hw1, Int.natCast_add]
          refine y2 _ ?_
          try clear y2 Y2
          refine AWp_seqK fun Y2 y2 => ?_
          refine AWp_region ?_
          iterate 3 (refine aops_chunk 1 fun Q0 q0 => ?_; simp only [↓bO, go_sem, seval, look_I, look_B, upd_I, upd_B, hk, gM hq, partC, hw1, Int.natCast_add]; refine q0 _ ?_; clear q0 Q0; simp only [go_sem])
          simp only [↓bO, go_sem, seval, look_I, look_B, upd_I, upd_B, hk, gM hq, partC, hw1, Int.natCast_add]
          refine YCalls.at (m := 13) (ih (uns S.F.up.length s.2.1) (by have h8 := uns_le (N := S.F.up.length) (s1 := mset sn r true) (s2 := s.2.1) (fun x hx => (by rw [sG_set] at hx; split at hx; (rename_i e; subst e; exact hs.2.1.self); exact hs.2.1.mono x hx)); have h7 := uns_set hrl hns; omega) { S with F := s.1 } (hS.fsame hs.1 (hS.c.fsame hs.1)) W s.2.1 (by dsimp only; rw [hs.1.len]; exact Nat.le_refl _) q ((hs.1.rt _ _).2 hrq)) (by omega) (by exact ⟨.ptr rfl, .agg ⟨.ptr rfl, .v _, trivial⟩, .map rfl, trivial⟩) (by omega) ⟨rfl, rfl, rfl, rfl, rfl, rfl, rfl, rfl, rfl, rfl, rfl, rfl, rfl, rfl, trivial⟩ (fun F3 W3 s3 b5 hX5 => ?_)
          dsimp only at hX5
          obtain ⟨hF3, e3, hR5⟩ := hX5
          rw [e3]
          rw [show kids { S with F := s.1 } = kids S from funext fun z => kids_fsame hs.1 z] at hR5
          have hF4 := hs.1.trans hF3
          simp only [cObs, wObs, List.cons_append, List.nil_append, List.zip_cons_cons, List.zip_nil_left, List.zip_nil_right, putsO, putO, Nat.reduceEqDiff, ↓reduceIte]
          try simp only [bS, bA, thenQ, blockQ, noGotoQ]
          refine y2 _ ?_
          try clear y2 Y2
          refine AWp_cond rfl (fun hb42 => ?_) (fun hb42 => ?_)
          ·
           have hbt : b5 = true := hb42
           subst hbt
           refine AWp_seqK fun Y2 y2 => ?_
           refine AWp_region ?_
           simp only [↓bO, go_sem, seval, look_I, look_B, upd_I, upd_B, hk, gM hq, partC, hw1, Int.natCast_add]
           refine y2 _ ?_
           try clear y2 Y2
           refine AWp_ret ?_
           try simp only [thenQ, blockQ, noGotoQ, retQ, aRes, tupOf, bS, bA]
           refine ⟨_, enumO 0 (cObs { S with F := F3 } ++ wObs W ++ [.map (mC cB s3)]), ⟨((F3, W), s3, true), ?_, rfl, rfl⟩, .v _ _, yUnd (by omega) _ _ _, ?_, ?_, by omega⟩
           · exact ⟨hF4, rfl, hs.2.1.yes (by rw [hkd]; exact hq) hR5⟩
           · exact Le.refl _
           · first | (exact ⟨2, rfl, rfl⟩) | (exact ⟨1, rfl, rfl⟩) | (exact ⟨0, rfl, rfl⟩)
          ·
           have hbf : b5 = false := hb42
           subst hbf
           refine AWp_skip ?_
           try simp only [thenQ, blockQ, noGotoQ]
           refine y1 _ ?_
           try clear y1 Y1
           refine AWp_region ?_
           refine aops_chunk 1 fun Q0 q0 => ?_
           simp only [↓bO, go_sem, seval, look_I, look_B, upd_I, upd_B, hk, gM hq, partC, hw1, Int.natCast_add]
           refine q0 _ ?_
           clear q0 Q0
           simp only [go_sem]
           simp only [↓bO, go_sem, seval, look_I, look_B, upd_I, upd_B, hk, gM hq, partC, hw1, Int.natCast_add]
           refine ⟨(F3, s3, s.2.2 + 1), ⟨hF4, hs.2.1.step (by rw [hkd]; exact hq) hR5, by simp only; omega⟩, (by simp only; omega), ?_⟩
           simp only [maskL, setsL, putsO, putO, mB, List.set_cons_zero, List.set_cons_succ, seval, Int.natCast_add, Int.natCast_one, Int.cast_ofNat_Int]
           refine Weak.sub ?_ ⟨rfl, rfl, rfl, rfl, rfl, rfl, rfl, rfl, rfl, rfl, rfl, rfl, rfl, rfl, rfl, trivial⟩ (by first | omega | (simp only; omega)) (by first | omega | (simp only; omega)) ?_ ?_
           · simp only [go_sem, Le.refl, Le.any]
           · repeat' first | exact trivial | exact .any _ | exact .ptr (by omega) | exact .own (by omega) | exact .v _ _ | exact Und.data (EqT.dataSl _) | exact Und.parts (by omega) _ | exact .map (by omega) | (refine ⟨?_, ?_⟩)
           · repeat' first | exact trivial | (with_reducible omega) | exact .any _ | exact .ptr (by omega) | exact .own (by omega) | exact .v _ _ | exact .map (by omega) | exact Und.oslG (by omega) | exact Und.rowI (nC_data _) | exact Und.rowI (iC_data _) | exact (fun p hp => .data (vC_data _ p hp)) | exact (fun p hp => .data (mC_dataI _ p hp)) | exact (fun p hp => .data (mC_dataB _ p hp)) | (refine ⟨?_, ?_⟩)
         ·
          have hk : s.2.2 = rs.length := by (have h9 := hb36; simp at h9; have := hs.2.2; omega)
          refine AWp_exit ?_
          simp only [thenQ, blockQ, noGotoQ, bA, Nat.reduceEqDiff, ↓reduceIte]
          refine y0 _ ?_
          try clear y0 Y0
          refine AWp_seqK fun Y0 y0 => ?_
          refine AWp_region ?_
          simp only [↓bO, go_sem, seval, look_I, look_B, upd_I, upd_B]
          refine y0 _ ?_
          try clear y0 Y0
          refine AWp_ret ?_
          try simp only [thenQ, blockQ, noGotoQ, retQ, aRes, tupOf, bS, bA]
          refine ⟨_, enumO 0 (cObs { S with F := s.1 } ++ wObs W ++ [.map (mC cB s.2.1)]), ⟨((s.1, W), s.2.1, false), ?_, rfl, rfl⟩, .v _ _, yUnd (by omega) _ _ _, ?_, ?_, by omega⟩
          · exact ⟨hs.1, rfl, hs.2.1.fin (by rw [hkd]; omega) hc1⟩
          · exact Le.refl _
          · first | (exact ⟨2, rfl, rfl⟩) | (exact ⟨1, rfl, rfl⟩) | (exact ⟨0, rfl, rfl⟩)
end Go.Proofs.Ytjjjckjebkmnjaa
namespace Go.Proofs.Ytjjjckjebkmnjaa
open Go Go.RowKit
set_option maxRecDepth 100000
set_option maxHeartbeats 4000000
set_option linter.unusedSimpArgs false
set_option linter.unusedVariables false
attribute [local irreducible] aops dRun
theorem ReR.none {K : Nat → List Nat} {W : WS} {r : Nat} {s' : List (Int × Bool)} (h : ReR K W r [] s' false) : ¬ ∃ v, Rch K r v ∧ W.cg v = true := by
  rintro ⟨v, hv, hm0⟩
  obtain ⟨h1, _, h3⟩ := h.no rfl
  have key : ∀ x v, Rch K x v → W.cg v = true → sG s' x = true → False := fun x v hx => by
    induction hx with
    | refl =>
      intro hm hs
      rcases h3 _ hs with h9 | ⟨h9, _⟩
      · simp [sG, mfind] at h9
      · rw [h9] at hm; cases hm
    | step hc _ ih =>
      intro hm hs
      rcases h3 _ hs with h9 | ⟨_, h9⟩
      · simp [sG, mfind] at h9
      · exact ih hm (h9 _ hc)
  exact key r v hv hm0 h1
theorem ReR.iff {K : Nat → List Nat} {W : WS} {r : Nat} {s' : List (Int × Bool)} {b : Bool} (h : ReR K W r [] s' b) : b = true ↔ ∃ v, Rch K r v ∧ W.cg v = true := by
  cases b with
  | true => exact ⟨fun _ => h.yes rfl, fun _ => rfl⟩
  | false => exact ⟨fun hb => (by cases hb), fun hx => absurd hx h.none⟩
theorem pushIC7 (l : List Int) (r : Int) : l.map intC ++ [[.v (.int .i64 r)]] = (l ++ [r]).map intC := by rw [List.map_append]; rfl
theorem oUnd {n : Nat} (h : 16 ≤ n) (S : CS) (W : WS) (o : List Int) : UndOs n (enumO 0 (cObs S ++ wObs W ++ [.cells 103 [.ptr 12 0], .cells 41 [.osl 15 1 (o.map intC)], .tok 3 1 o.length])) := by
  have h1 := wUnd (n := n) (by omega) S W
  obtain ⟨a0, a1, b0, b1, c0, c1, d0, d1, e0, e1, f0, f1, g0, g1, i0, i1, j0, j1, k0, k1, l0, l1, m0, m1, o0, o1, _⟩ := h1
  exact ⟨a0, a1, b0, b1, c0, c1, d0, d1, e0, e1, f0, f1, g0, g1, i0, i1, j0, j1, k0, k1, l0, l1, m0, m1, o0, o1, by omega, ⟨.ptr (by omega), trivial⟩, by omega, ⟨.osl (by omega) (.data (dataInts _)), trivial⟩, by omega, trivial, trivial⟩
theorem cyc1_c (S : CS) (hS : CyG S) (W : WS) (v : Int) (r : Nat) (hr : Rt S.F.up r r) (o : List Int) (ho : o.length ≤ 1048576) : ACalls Try.prog 75 [.v (.int .i64 v), .agg [.ptr 0 0, .v (.int .i64 (r : Int))], .ptr 13 0, .ptr 14 0] (enumO 0 (cObs (S) ++ wObs (W) ++ [.cells 103 [.ptr 12 0], .cells 41 [.osl 15 1 (o.map intC)], .tok 3 1 o.length])) 16 fun z os n => (∃ s : (FS × WS) × List Int, (FSame S.F s.1.1 ∧ s.1.2 = W ∧ ∃ b : Bool, (b = true ↔ ∃ x, Rch (kids S) r x ∧ W.cg x = true) ∧ s.2 = if b then o ++ [v] else o) ∧ z = (fun s : List Int => .tup []) s.2 ∧ os = enumO 0 (cObs { S with F := s.1.1 } ++ wObs s.1.2 ++ [.cells 103 [.ptr 12 0], .cells 41 [.osl 15 1 (s.2.map intC)], .tok 3 1 s.2.length])) ∧ n = 16 := by
  refine ACalls.clean (C := fun zr zo => ∃ s : (FS × WS) × List Int, (FSame S.F s.1.1 ∧ s.1.2 = W ∧ ∃ b : Bool, (b = true ↔ ∃ x, Rch (kids S) r x ∧ W.cg x = true) ∧ s.2 = if b then o ++ [v] else o) ∧ zr = (fun s : List Int => .tup []) s.2 ∧ zo = enumO 0 (cObs { S with F := s.1.1 } ++ wObs s.1.2 ++ [.cells 103 [.ptr 12 0], .cells 41 [.osl 15 1 (s.2.map intC)], .tok 3 1 s.2.length])) ?_
  refine ACalls_intro Try.func75 (by kernel_rfl) rfl (by rw [Try.ntmps75]; simp) (fun hm => ?_)
  simp only [Try.ntmps75, Try.results75, List.length_cons, List.length_nil, Nat.reduceAdd, Nat.reduceSub, List.replicate_succ, List.replicate_zero, List.cons_append, List.nil_append]
  simp only [cObs, wObs, List.cons_append, List.nil_append, enumO, Nat.reduceAdd]
  have hb1 : (o.length + 1) * 8 ≤ 140737488355328 := by omega
  have hb2 : o.length + 1 ≤ maxLen := by (unfold maxLen; omega)
  refine AWp_seqK fun Y0 y0 => ?_
  refine AWp_region ?_
  simp only [↓bO, go_sem, seval, pushIC7, hb1, hb2, List.length_append]
  refine y0 _ ?_
  try clear y0 Y0
  refine AWp_seqK fun Y0 y0 => ?_
  refine AWp_region ?_
  iterate 3 (refine aops_chunk 1 fun Q0 q0 => ?_; simp only [↓bO, go_sem, seval, pushIC7, hb1, hb2, List.length_append]; refine q0 _ ?_; clear q0 Q0; simp only [go_sem])
  simp only [↓bO, go_sem, seval, pushIC7, hb1, hb2, List.length_append]
  refine YCalls.at (m := 17) (reaches_c _ S hS W [] (Nat.le_refl _) r hr) (by omega) (by exact ⟨.ptr rfl, .agg ⟨.ptr rfl, .v _, trivial⟩, .map rfl, trivial⟩) (by omega) ⟨rfl, rfl, rfl, rfl, rfl, rfl, rfl, rfl, rfl, rfl, rfl, rfl, rfl, rfl, trivial⟩ (fun F1 W1 s1 b1 hX5 => ?_)
  dsimp only at hX5
  obtain ⟨e1, e2, e3⟩ : _ ∧ W1 = W ∧ _ := hX5
  rw [e2]
  have hX5 := And.intro e1 (And.intro e2 e3)
  simp only [cObs, wObs, List.cons_append, List.nil_append, List.zip_cons_cons, List.zip_nil_left, List.zip_nil_right, putsO, putO, Nat.reduceEqDiff, ↓reduceIte]
  try simp only [bS, bA, thenQ, blockQ, noGotoQ]
  refine y0 _ ?_
  try clear y0 Y0
  refine AWp_cond rfl (fun hb9 => ?_) (fun hb9 => ?_)
  ·
   have hbt : b1 = true := hb9
   subst hbt
   refine AWp_region ?_
   iterate 2 (refine aops_chunk 1 fun Q0 q0 => ?_; simp only [↓bO, go_sem, seval, pushIC7, hb1, hb2, List.length_append]; refine q0 _ ?_; clear q0 Q0; simp only [go_sem])
   refine aops_chunk 1 fun Q0 q0 => ?_
   simp only [↓bO, go_sem, seval, ↓bs1_1, ↓bs1_2, ↓bs1_3, ↓bs1_4, ↓bs1_5, ↓bs1_6, ↓bs1_7, ↓bs1_8, ↓bs1_9, ↓bs1_10, ↓bs1_11, ↓bs1_12, pushIC7, hb1, hb2, List.length_append]
   refine q0 _ ?_
   clear q0 Q0
   simp only [go_sem]
   refine aops_chunk 1 fun Q0 q0 => ?_
   simp only [↓bO, go_sem, seval, pushIC7, hb1, hb2, List.length_append]
   refine q0 _ ?_
   clear q0 Q0
   simp only [go_sem]
   simp only [↓bO, go_sem, seval, pushIC7, hb1, hb2, List.length_append]
   try simp only [thenQ, blockQ, noGotoQ, retQ, aRes, tupOf, bS, bA]
   refine ⟨_, enumO 0 (cObs { S with F := F1 } ++ wObs (W) ++ [.cells 103 [.ptr 12 0], .cells 41 [.osl 15 1 ((o ++ [v]).map intC)], .tok 3 1 (o ++ [v]).length]), ⟨((F1, W), (o ++ [v])), ?_, rfl, rfl⟩, .tup trivial, oUnd (by omega) _ _ _, ?_, ?_, by omega⟩
   · exact ⟨hX5.1, rfl, true, hX5.2.2.iff, rfl⟩
   ·
    exact Le.refl _
   · first | (refine ⟨2, rfl, rfl⟩) | (refine ⟨1, rfl, rfl⟩) | (refine ⟨0, rfl, rfl⟩) | (refine ⟨2, by simp only [cObs, wObs, List.cons_append, List.nil_append, enumO, List.drop_zero, List.drop_succ_cons, Nat.reduceAdd, List.length_append, List.length_cons, List.length_nil, Nat.zero_add], rfl⟩) | (refine ⟨1, by simp only [cObs, wObs, List.cons_append, List.nil_append, enumO, List.drop_zero, List.drop_succ_cons, Nat.reduceAdd, List.length_append, List.length_cons, List.length_nil, Nat.zero_add], rfl⟩) | (refine ⟨0, by simp only [cObs, wObs, List.cons_append, List.nil_append, enumO, List.drop_zero, List.drop_succ_cons, Nat.reduceAdd, List.length_append, List.length_cons, List.length_nil, Nat.zero_add], rfl⟩)
  ·
   have hbf : b1 = false := hb9
   subst hbf
   refine AWp_skip ?_
   try simp only [thenQ, blockQ, noGotoQ]
   try simp only [thenQ, blockQ, noGotoQ, retQ, aRes, tupOf, bS, bA]
   refine ⟨_, enumO 0 (cObs { S with F := F1 } ++ wObs (W) ++ [.cells 103 [.ptr 12 0], .cells 41 [.osl 15 1 (o.map intC)], .tok 3 1 o.length]), ⟨((F1, W), o), ?_, rfl, rfl⟩, .tup trivial, oUnd (by omega) _ _ _, ?_, ?_, by omega⟩
   · exact ⟨hX5.1, rfl, false, hX5.2.2.iff, rfl⟩
   ·
    exact Le.refl _
   · first | (refine ⟨2, rfl, rfl⟩) | (refine ⟨1, rfl, rfl⟩) | (refine ⟨0, rfl, rfl⟩) | (refine ⟨2, by simp only [cObs, wObs, List.cons_append, List.nil_append, enumO, List.drop_zero, List.drop_succ_cons, Nat.reduceAdd, List.length_append, List.length_cons, List.length_nil, Nat.zero_add], rfl⟩) | (refine ⟨1, by simp only [cObs, wObs, List.cons_append, List.nil_append, enumO, List.drop_zero, List.drop_succ_cons, Nat.reduceAdd, List.length_append, List.length_cons, List.length_nil, Nat.zero_add], rfl⟩) | (refine ⟨0, by simp only [cObs, wObs, List.cons_append, List.nil_append, enumO, List.drop_zero, List.drop_succ_cons, Nat.reduceAdd, List.length_append, List.length_cons, List.length_nil, Nat.zero_add], rfl⟩)
end Go.Proofs.Ytjjjckjebkmnjaa
namespace Go.Proofs.Ytjjjckjebkmnjaa
open Go Go.RowKit
set_option maxRecDepth 100000
set_option maxHeartbeats 4000000
set_option linter.unusedSimpArgs false
set_option linter.unusedVariables false
attribute [local irreducible] aops dRun
theorem filter_take {P : Int → Bool} {L : List Int} {k : Nat} {v : Int} (h : L[k]? = some v) : (L.take (k + 1)).filter P = if P v = true then (L.take k).filter P ++ [v] else (L.take k).filter P := by
  rw [List.take_add_one, h, List.filter_append]
  by_cases hp : P v = true <;> simp [hp]
theorem filter_len (P : Int → Bool) (L : List Int) (k : Nat) : ((L.take k).filter P).length ≤ L.length :=
  Nat.le_trans (List.length_filter_le _ _) (by simp [List.length_take]; omega)
theorem eachC_c (S : CS) (hS : CyG S) (hc : S.clash = false) (W : WS) (P : Int → Bool) (hP : ∀ (v i : Int) (q : Nat), vfind S.G.V v = some i → Rt S.F.up i.toNat q → (P v = true ↔ ∃ x, Rch (kids S) q x ∧ W.cg x = true)) : ACalls Try.prog 74 [.ptr 0 0, .clo 75 [.ptr 13 0, .ptr 14 0]] (enumO 0 (cObs (S) ++ wObs (W) ++ [.cells 103 [.ptr 12 0], .cells 41 [.osl 15 1 (([] : List Int).map intC)], .tok 3 1 ([] : List Int).length])) 16 fun z os n => (∃ s : (FS × WS) × List Int, (FSame S.F s.1.1 ∧ s.1.2 = W ∧ s.2 = (sortI (S.G.V.map Prod.fst)).filter P) ∧ z = (fun s : List Int => .tup []) s.2 ∧ os = enumO 0 (cObs { S with F := s.1.1 } ++ wObs s.1.2 ++ [.cells 103 [.ptr 12 0], .cells 41 [.osl 15 1 (s.2.map intC)], .tok 3 1 s.2.length])) ∧ n = 16 := by
  refine ACalls.clean (C := fun zr zo => ∃ s : (FS × WS) × List Int, (FSame S.F s.1.1 ∧ s.1.2 = W ∧ s.2 = (sortI (S.G.V.map Prod.fst)).filter P) ∧ zr = (fun s : List Int => .tup []) s.2 ∧ zo = enumO 0 (cObs { S with F := s.1.1 } ++ wObs s.1.2 ++ [.cells 103 [.ptr 12 0], .cells 41 [.osl 15 1 (s.2.map intC)], .tok 3 1 s.2.length])) ?_
  refine ACalls_intro Try.func74 (by kernel_rfl) rfl (by rw [Try.ntmps74]; simp) (fun hm => ?_)
  simp only [Try.ntmps74, Try.results74, List.length_cons, List.length_nil, Nat.reduceAdd, Nat.reduceSub, List.replicate_succ, List.replicate_zero, List.cons_append, List.nil_append]
  simp only [cObs, wObs, List.cons_append, List.nil_append, enumO, Nat.reduceAdd]
  have hvl := hS.vl
  refine AWp_seqK fun Y0 y0 => ?_
  refine AWp_region ?_
  refine aops_chunk 1 fun Q0 q0 => ?_
  simp only [↓bO, go_sem, seval, look_I, look_B, upd_I, upd_B]
  refine q0 _ ?_
  clear q0 Q0
  simp only [go_sem]
  refine aops_chunk 1 fun Q0 q0 => ?_
  simp only [↓bO, go_sem, seval, look_I, look_B, upd_I, upd_B]
  refine CCalls.at (CVars2_c S (fun _ => hS.h64) (fun _ => by omega)) (.nil) (fun _ => dataInts _) (i0 := 0) (i1 := 1) (i2 := 2) (i3 := 3) (i4 := 4) (i5 := 5) (i6 := 6) (i7 := 7) (by decide) (by simp) ⟨rfl, rfl, rfl, rfl, rfl, rfl, rfl, rfl, trivial⟩ (fun Z9 u9 hZ9 => ?_)
  try dsimp only at hZ9
  simp only [cObsAt, List.zip_cons_cons, List.zip_nil_left, List.zip_nil_right, putsO, putO, Nat.reduceEqDiff, ↓reduceIte]
  obtain rfl : S = Z9 := hZ9.symm
  rw [if_neg (show ¬ (S.clash = true) from by rw [hc]; decide)]
  obtain ⟨L, hL⟩ : ∃ L, L = sortI (S.G.V.map Prod.fst) := ⟨_, rfl⟩
  rw [← hL]
  have hLl : L.length ≤ 1048576 := by (rw [hL, List.length_mergeSort, List.length_map]; exact hvl)
  try simp only [bS, bA, thenQ, blockQ, noGotoQ]
  refine q0 _ ?_
  clear q0 Q0
  simp only [go_sem]
  refine aops_chunk 1 fun Q0 q0 => ?_
  simp only [↓bO, go_sem, seval, look_I, look_B, upd_I, upd_B]
  refine q0 _ ?_
  clear q0 Q0
  simp only [go_sem]
  simp only [↓bO, go_sem, seval, look_I, look_B, upd_I, upd_B]
  refine y0 _ ?_
  try clear y0 Y0
  refine AWp_block ?_
  refine AWp_loopM (σ := FS × Nat) (mB 26 3587) (fun s => FSame S.F s.1 ∧ s.2 ≤ L.length) (fun s => [(11, .v (.int .i64 (s.2 : Int)))]) (fun s => [(4, .cells 115 [.own 5 s.1.up.length, .own 6 s.1.rank.length, .v (.int .i64 s.1.sets), .v (.int .i64 s.1.steps)]), (5, .row 3 1 (s.1.up.map nC)), (6, .row 3 1 (s.1.rank.map intC)), (14, .cells 41 [.osl 15 1 (((L.take s.2).filter P).map intC)]), (15, .tok 3 1 ((L.take s.2).filter P).length)]) (fun s => L.length - s.2) (S.F, 0) (⟨FSame.refl hS.c.f, Nat.zero_le _⟩) ?_ (fun s hs => ?_)
  ·
   simp only [maskL, setsL, putsO, putO, mB, List.set_cons_zero, List.set_cons_succ, seval]
   exact Weak.mk (by simp only [go_sem, Le.refl, Le.any, Le.slNil, Int.natCast_add, Int.cast_ofNat_Int, Int.natCast_one]) (fun _ _ h => h) rfl rfl
  simp only [maskL, setsL, putsO, putO, mB, List.set_cons_zero, List.set_cons_succ, seval]
  refine AWp_seqK fun Y0 y0 => ?_
  refine AWp_region ?_
  simp only [↓bO, go_sem, seval, look_I, look_B, upd_I, upd_B]
  refine y0 _ ?_
  try clear y0 Y0
  refine AWp_seqK fun Y0 y0 => ?_
  refine AWp_cond rfl (fun hb12 => ?_) (fun hb12 => ?_)
  ·
   have hk : s.2 < L.length := by simpa using hb12
   obtain ⟨v, he⟩ : ∃ v, L[s.2]? = some v := ⟨_, List.getElem?_eq_getElem hk⟩
   obtain ⟨i, hvi⟩ := sort_vfind (V := S.G.V) v (by rw [← hL]; exact List.mem_of_getElem? he)
   have hw1 : IntKind.i64.wrap ((s.2 : Int) + 1) = (s.2 : Int) + 1 := wrap_in (by omega) (by omega)
   refine AWp_skip ?_
   try simp only [thenQ, blockQ, noGotoQ]
   refine y0 _ ?_
   try clear y0 Y0
   refine AWp_seqK fun Y0 y0 => ?_
   refine AWp_block ?_
   refine AWp_seqK fun Y1 y1 => ?_
   refine AWp_region ?_
   iterate 2 (refine aops_chunk 1 fun Q0 q0 => ?_; simp only [↓bO, go_sem, seval, look_I, look_B, upd_I, upd_B, hk, gM he, intC, hw1, Int.natCast_add]; refine q0 _ ?_; clear q0 Q0; simp only [go_sem])
   simp only [↓bO, go_sem, seval, look_I, look_B, upd_I, upd_B, hk, gM he, intC, hw1, Int.natCast_add]
   refine y1 _ ?_
   try clear y1 Y1
   refine AWp_joinF (σ := FS × Nat) (mB 26 3683) (fun y3 => [(6, .eptr [.ptr 0 0, .v (.int .i64 (y3.2 : Int))])]) (fun y3 => [(0, .cells 89 [.v (.int .i64 S.steps), .ptr 1 0, .ptr 4 0, .own 7 S.W.length, .v (.bool S.clash)]), (1, .cells 118 [.osl 2 4 (S.G.N.map GNode.cells), .map 3]), (2, .tok 128 4 S.G.N.length), (3, .map (S.G.V.map vC)), (4, .cells 115 [.own 5 y3.1.up.length, .own 6 y3.1.rank.length, .v (.int .i64 y3.1.sets), .v (.int .i64 y3.1.steps)]), (5, .row 3 1 (y3.1.up.map nC)), (6, .row 3 1 (y3.1.rank.map intC)), (7, .row 3 1 (S.W.map intC)), (8, .map (mC cI W.st)), (9, .map (mC cB W.cy)), (10, .map (mC cI W.de)), (11, .map (mC cI W.sz)), (12, .cells 108 [.map 8, .map 9, .map 10, .map 11, .v (.int .i64 W.steps), .v (.bool W.bad)]), (13, .cells 103 [.ptr 12 0]), (14, .cells 41 [.osl 15 1 (((L.take s.2).filter P).map intC)]), (15, .tok 3 1 ((L.take s.2).filter P).length)]) 16 (fun y3 => FSame S.F y3.1 ∧ Rt S.F.up i.toNat y3.2) ?_ (fun y3 hy3 => ?_)
   ·
    refine AWp_region ?_
    iterate 2 (refine aops_chunk 1 fun Q0 q0 => ?_; simp only [↓bO, go_sem, seval, look_I, look_B, upd_I, upd_B, hk, gM he, intC, hw1, Int.natCast_add]; refine q0 _ ?_; clear q0 Q0; simp only [go_sem])
    refine aops_chunk 1 fun Q0 q0 => ?_
    simp only [↓bO, go_sem, seval, look_I, look_B, upd_I, upd_B, hk, gM he, intC, hw1, Int.natCast_add]
    refine CCalls.atP (R' := fun s => .tup [.agg (partC 0 s), .v (.bool true)]) (CPart_c { S with F := s.1 } hs.1.inv (fun n k h => by have := hS.vin n k h; dsimp only; rw [hs.1.len]; exact this) hc v i hvi) (i0 := 0) (i1 := 1) (i2 := 2) (i3 := 3) (i4 := 4) (i5 := 5) (i6 := 6) (i7 := 7) (by exact ⟨.ptr rfl, .v _, trivial⟩) (fun _ => by exact .tup ⟨.part rfl _, .v _, trivial⟩) (by decide) (by simp) ⟨rfl, rfl, rfl, rfl, rfl, rfl, rfl, rfl, trivial⟩ (fun Z1 r1 hX1 => ?_)
    try dsimp only at hX1
    simp only [cObsAt, List.zip_cons_cons, List.zip_nil_left, List.zip_nil_right, putsO, putO, Nat.reduceEqDiff, ↓reduceIte]
    obtain ⟨F1, rfl⟩ : ∃ F, Z1 = { S with F := F } := ⟨Z1.F, hX1.2.1⟩
    dsimp only at hX1
    have hF1 : FSame S.F F1 := hs.1.trans hX1.1
    have hrt := (hs.1.rt _ _).1 hX1.2.2
    try simp only [bS, bA, thenQ, blockQ, noGotoQ]
    iterate 5 (refine q0 _ ?_; clear q0 Q0; simp only [go_sem]; refine aops_chunk 1 fun Q0 q0 => ?_; simp only [↓bO, go_sem, seval, look_I, look_B, upd_I, upd_B, hk, gM he, intC, hw1, Int.natCast_add, partC])
    refine q0 _ ?_
    clear q0 Q0
    simp only [go_sem]
    simp only [↓bO, go_sem, seval, look_I, look_B, upd_I, upd_B, hk, gM he, intC, hw1, Int.natCast_add, partC]
    try simp only [maskL, setsL, putsO, putO, mB, List.set_cons_zero, List.set_cons_succ, seval]
    refine ⟨(F1, r1), ⟨hF1, hrt⟩, ?_⟩
    refine Weak.freeze ?_ ⟨rfl, rfl, rfl, rfl, rfl, rfl, rfl, rfl, rfl, rfl, rfl, rfl, rfl, rfl, rfl, rfl, trivial⟩ (by first | omega | (simp only; omega)) (by first | omega | (simp only; omega)) ?_ ?_
    · repeat' first | trivial | exact .inr ⟨_, _, _, rfl, rfl, rfl, rfl⟩ | exact .inl (.refl _) | exact .inl (.any _) | (refine ⟨?_, ?_⟩)
    · repeat' first | exact trivial | exact .any _ | exact .ptr (by omega) | exact .own (by omega) | exact .v _ _ | exact Und.data (EqT.dataSl _) | exact Und.data (dataInts _) | exact Und.eptr ⟨.ptr (by omega), .v _ _, trivial⟩ | exact .clo ⟨.ptr (by omega), .ptr (by omega), trivial⟩ | exact .osl (by omega) (.data (dataInts _)) | (refine ⟨?_, ?_⟩)
    · repeat' first | exact trivial | (with_reducible omega) | exact .any _ | exact .ptr (by omega) | exact .own (by omega) | exact .v _ _ | exact .map (by omega) | exact Und.oslG (by omega) | exact Und.rowI (nC_data _) | exact Und.rowI (iC_data _) | exact (fun p hp => .data (vC_data _ p hp)) | exact .osl (by omega) (.data (dataInts _)) | exact (fun p hp => .data (mC_dataI _ p hp)) | exact (fun p hp => .data (mC_dataB _ p hp)) | (refine ⟨?_, ?_⟩)
   simp only [maskL, setsL, putsO, putO, mB, List.set_cons_zero, List.set_cons_succ, seval]
   obtain ⟨F1, r1⟩ := y3
   obtain ⟨hF1, hrt⟩ := hy3
   dsimp only at hF1 hrt
   dsimp only
   refine AWp_region ?_
   iterate 3 (refine aops_chunk 1 fun Q0 q0 => ?_; simp only [↓bO, go_sem, seval, look_I, look_B, upd_I, upd_B, hk, gM he, intC, hw1, Int.natCast_add]; refine q0 _ ?_; clear q0 Q0; simp only [go_sem])
   simp only [↓bO, go_sem, seval, look_I, look_B, upd_I, upd_B, hk, gM he, intC, hw1, Int.natCast_add]
   refine ACalls.mono (show ACalls Try.prog 75 _ (enumO 0 (cObs { S with F := F1 } ++ wObs W ++ [.cells 103 [.ptr 12 0], .cells 41 [.osl 15 1 (((L.take s.2).filter P).map intC)], .tok 3 1 ((L.take s.2).filter P).length])) 16 _ from cyc1_c { S with F := F1 } (hS.fsame hF1 (hS.c.fsame hF1)) W v r1 ((hF1.rt _ _).2 (rt_root.1 hrt.root)) ((L.take s.2).filter P) (Nat.le_trans (filter_len P L s.2) hLl)) ?_
   rintro z os' nx' ⟨⟨⟨⟨F2, W2⟩, o2⟩, hY, rfl, rfl⟩, rfl⟩
   dsimp only at hY
   obtain ⟨y1, y2, b2, y3, y4⟩ := hY
   have hF2 := hF1.trans y1
   subst y2
   rw [show kids { S with F := F1 } = kids S from funext fun z => kids_fsame hF1 z] at y3
   have hb2 : b2 = P v := by (have h9 := hP v i r1 hvi hrt; rw [← y3] at h9; cases b2 <;> cases hp : P v <;> simp [hp] at h9 ⊢)
   have ho2 : o2 = (L.take (s.2 + 1)).filter P := by rw [filter_take he, y4, hb2]
   subst ho2
   simp only [cObs, wObs, List.cons_append, List.nil_append, enumO, Nat.reduceAdd]
   try simp only [bS, bA, thenQ, blockQ, noGotoQ]
   refine y0 _ ?_
   try clear y0 Y0
   refine AWp_region ?_
   refine aops_chunk 1 fun Q0 q0 => ?_
   simp only [↓bO, go_sem, seval, look_I, look_B, upd_I, upd_B, hk, gM he, intC, hw1, Int.natCast_add]
   refine q0 _ ?_
   clear q0 Q0
   simp only [go_sem]
   simp only [↓bO, go_sem, seval, look_I, look_B, upd_I, upd_B, hk, gM he, intC, hw1, Int.natCast_add]
   refine ⟨(F2, s.2 + 1), ⟨hF2, by simp only; omega⟩, (by simp only; omega), ?_⟩
   simp only [maskL, setsL, putsO, putO, mB, List.set_cons_zero, List.set_cons_succ, seval, hk, gM he, intC, hw1, Int.natCast_add, Int.natCast_one, Int.cast_ofNat_Int]
   exact Weak.mk (by simp only [go_sem, Le.refl, Le.any, Le.slNil, Int.natCast_add, Int.cast_ofNat_Int, Int.natCast_one]) (fun _ _ h => h) rfl rfl
  ·
   have hk : s.2 = L.length := by (have h9 := hb12; simp at h9; have := hs.2; omega)
   refine AWp_exit ?_
   simp only [thenQ, blockQ, noGotoQ, bA, Nat.reduceEqDiff, ↓reduceIte]
   try simp only [thenQ, blockQ, noGotoQ, retQ, aRes, tupOf, bS, bA]
   refine ⟨_, enumO 0 (cObs { S with F := s.1 } ++ wObs (W) ++ [.cells 103 [.ptr 12 0], .cells 41 [.osl 15 1 (((L.take s.2).filter P).map intC)], .tok 3 1 ((L.take s.2).filter P).length]), ⟨((s.1, W), ((L.take s.2).filter P)), ?_, rfl, rfl⟩, .tup trivial, oUnd (by omega) _ _ _, ?_, ?_, by omega⟩
   · exact ⟨hs.1, rfl, by dsimp only; rw [hk, List.take_length, hL]⟩
   ·
    exact Le.refl _
   · first | (refine ⟨0, rfl, rfl⟩) | (refine ⟨0, by simp only [cObs, wObs, List.cons_append, List.nil_append, enumO, List.drop_zero, List.drop_succ_cons, Nat.reduceAdd], rfl⟩)
end Go.Proofs.Ytjjjckjebkmnjaa
namespace Go.Proofs.Ytjjjckjebkmnjaa
open Go Go.RowKit
set_option maxRecDepth 100000
set_option maxHeartbeats 4000000
set_option linter.unusedSimpArgs false
set_option linter.unusedVariables false
attribute [local irreducible] aops dRun
theorem eachN_c (S : CS) (hc : S.clash = true) (W : WS) : ACalls Try.prog 74 [.ptr 0 0, .clo 75 [.ptr 13 0, .ptr 14 0]] (enumO 0 (cObs (S) ++ wObs (W) ++ [.cells 103 [.ptr 12 0], .cells 41 [.osl 15 1 (([] : List Int).map intC)], .tok 3 1 ([] : List Int).length])) 16 fun z os n => (∃ s : (FS × WS) × List Int, (s.1.1 = S.F ∧ s.1.2 = W ∧ s.2 = []) ∧ z = (fun s : List Int => .tup []) s.2 ∧ os = enumO 0 (cObs { S with F := s.1.1 } ++ wObs s.1.2 ++ [.cells 103 [.ptr 12 0], .cells 41 [.osl 15 1 (s.2.map intC)], .tok 3 1 s.2.length])) ∧ n = 16 := by
  refine ACalls.clean (C := fun zr zo => ∃ s : (FS × WS) × List Int, (s.1.1 = S.F ∧ s.1.2 = W ∧ s.2 = []) ∧ zr = (fun s : List Int => .tup []) s.2 ∧ zo = enumO 0 (cObs { S with F := s.1.1 } ++ wObs s.1.2 ++ [.cells 103 [.ptr 12 0], .cells 41 [.osl 15 1 (s.2.map intC)], .tok 3 1 s.2.length])) ?_
  refine ACalls_intro Try.func74 (by kernel_rfl) rfl (by rw [Try.ntmps74]; simp) (fun hm => ?_)
  simp only [Try.ntmps74, Try.results74, List.length_cons, List.length_nil, Nat.reduceAdd, Nat.reduceSub, List.replicate_succ, List.replicate_zero, List.cons_append, List.nil_append]
  simp only [cObs, wObs, List.cons_append, List.nil_append, enumO, Nat.reduceAdd]
  refine AWp_seqK fun Y0 y0 => ?_
  refine AWp_region ?_
  refine aops_chunk 1 fun Q0 q0 => ?_
  simp only [↓bO, go_sem, seval]
  refine q0 _ ?_
  clear q0 Q0
  simp only [go_sem]
  refine aops_chunk 1 fun Q0 q0 => ?_
  simp only [↓bO, go_sem, seval]
  refine CCalls.at (CVars2_c S (fun h => by rw [hc] at h; cases h) (fun h => by rw [hc] at h; cases h)) (.nil) (fun _ => dataInts _) (i0 := 0) (i1 := 1) (i2 := 2) (i3 := 3) (i4 := 4) (i5 := 5) (i6 := 6) (i7 := 7) (by decide) (by simp) ⟨rfl, rfl, rfl, rfl, rfl, rfl, rfl, rfl, trivial⟩ (fun Z9 u9 hZ9 => ?_)
  try dsimp only at hZ9
  simp only [cObsAt, List.zip_cons_cons, List.zip_nil_left, List.zip_nil_right, putsO, putO, Nat.reduceEqDiff, ↓reduceIte]
  obtain rfl : S = Z9 := hZ9.symm
  rw [if_pos hc]
  try simp only [bS, bA, thenQ, blockQ, noGotoQ]
  refine q0 _ ?_
  clear q0 Q0
  simp only [go_sem]
  refine aops_chunk 1 fun Q0 q0 => ?_
  simp only [↓bO, go_sem, seval]
  refine q0 _ ?_
  clear q0 Q0
  simp only [go_sem]
  simp only [↓bO, go_sem, seval]
  refine y0 _ ?_
  try clear y0 Y0
  refine AWp_block ?_
  refine AWp_loopM (σ := Unit) (mB 26 3587) (fun s => True) (fun s => [(11, .v (.int .i64 0))]) (fun s => []) (fun s => 0) () (trivial) ?_ (fun s hs => ?_)
  ·
   simp only [maskL, setsL, putsO, putO, mB, List.set_cons_zero, List.set_cons_succ, seval]
   exact Weak.mk (by simp only [go_sem, Le.refl, Le.any, Le.slNil, Int.natCast_add, Int.cast_ofNat_Int, Int.natCast_one]) (fun _ _ h => h) rfl rfl
  simp only [maskL, setsL, putsO, putO, mB, List.set_cons_zero, List.set_cons_succ, seval]
  refine AWp_seqK fun Y0 y0 => ?_
  refine AWp_region ?_
  simp only [↓bO, go_sem, seval]
  refine y0 _ ?_
  try clear y0 Y0
  refine AWp_seqK fun Y0 y0 => ?_
  refine AWp_cond rfl (fun hb12 => ?_) (fun hb12 => ?_)
  ·
   simp at hb12
  ·
   refine AWp_exit ?_
   simp only [thenQ, blockQ, noGotoQ, bA, Nat.reduceEqDiff, ↓reduceIte]
   try simp only [thenQ, blockQ, noGotoQ, retQ, aRes, tupOf, bS, bA]
   refine ⟨_, enumO 0 (cObs { S with F := S.F } ++ wObs (W) ++ [.cells 103 [.ptr 12 0], .cells 41 [.osl 15 1 (([] : List Int).map intC)], .tok 3 1 ([] : List Int).length]), ⟨((S.F, W), []), ?_, rfl, rfl⟩, .tup trivial, oUnd (by omega) _ _ _, ?_, ?_, by omega⟩
   · exact ⟨rfl, rfl, rfl⟩
   ·
    exact Le.refl _
   · first | (refine ⟨0, rfl, rfl⟩) | (refine ⟨0, by simp only [cObs, wObs, List.cons_append, List.nil_append, enumO, List.drop_zero, List.drop_succ_cons, Nat.reduceAdd], rfl⟩)
noncomputable def CycP (S : CS) (v : Int) : Bool := @decide (∃ (i : Int) (q : Nat), vfind S.G.V v = some i ∧ Rt S.F.up i.toNat q ∧ Lp (kids S) q) (Classical.propDecidable _)
noncomputable def CycL (S : CS) : List Int := if S.clash = true then [] else (sortI (S.G.V.map Prod.fst)).filter (CycP S)
theorem CycP_iff {S : CS} {v i : Int} {q : Nat} (h1 : vfind S.G.V v = some i) (h2 : Rt S.F.up i.toNat q) : CycP S v = true ↔ Lp (kids S) q := by
  unfold CycP
  rw [@decide_eq_true_iff _ (Classical.propDecidable _)]
  constructor
  · rintro ⟨i', q', h3, h4, h5⟩
    rw [h1] at h3; cases h3
    rw [Rt.det h2 h4]; exact h5
  · exact fun h => ⟨i, q, h1, h2, h⟩
theorem eachB {S : CS} (hS : S.clash = false → CyG S) {F1 : FS} {W : WS} {fo1 : List Nat} (hA : AllR S ((F1, W), fo1)) : ACalls Try.prog 74 [.ptr 0 0, .clo 75 [.ptr 13 0, .ptr 14 0]] (enumO 0 (cObs { S with F := F1 } ++ wObs W ++ [.cells 103 [.ptr 12 0], .cells 41 [.osl 15 1 (([] : List Int).map intC)], .tok 3 1 ([] : List Int).length])) 16 fun z os n => (∃ s : FS × List Int, ((S.clash = false → FSame S.F s.1) ∧ s.2 = CycL S) ∧ z = .tup [] ∧ os = enumO 0 (cObs { S with F := s.1 } ++ wObs W ++ [.cells 103 [.ptr 12 0], .cells 41 [.osl 15 1 (s.2.map intC)], .tok 3 1 s.2.length])) ∧ n = 16 := by
  by_cases hc : S.clash = true
  · refine (eachN_c { S with F := F1 } hc W).mono ?_
    rintro z os n ⟨⟨⟨⟨F2, W2⟩, o⟩, ⟨h1, h2, h3⟩, rfl, rfl⟩, rfl⟩
    dsimp only at h1 h2 h3
    subst h2 h3
    exact ⟨⟨(F2, []), ⟨(fun h => by rw [hc] at h; cases h), by unfold CycL; rw [if_pos hc]⟩, rfl, rfl⟩, rfl⟩
  · have hc : S.clash = false := by simpa using hc
    rcases hA with ⟨h9, _⟩ | ⟨_, hF, hW, hV⟩
    · rw [hc] at h9; cases h9
    dsimp only at hF hW hV
    have hG := hS hc
    have ek : kids { S with F := F1 } = kids S := funext fun z => kids_fsame hF z
    refine (eachC_c { S with F := F1 } (hG.fsame hF (hG.c.fsame hF)) hc W (CycP S) ?_).mono ?_
    · intro v i q h1 h2
      have h2' := (hF.rt _ _).1 h2
      rw [CycP_iff (S := S) h1 h2', ek, hW.d.mark_iff (hV v i q h1 h2')]
    · rintro z os n ⟨⟨⟨⟨F2, W2⟩, o⟩, ⟨h1, h2, h3⟩, rfl, rfl⟩, rfl⟩
      dsimp only at h1 h2 h3
      subst h2
      exact ⟨⟨(F2, o), ⟨fun _ => hF.trans h1, by unfold CycL; rw [if_neg (by rw [hc]; decide)]; exact h3⟩, rfl, rfl⟩, rfl⟩
theorem eachB_at {S : CS} (hS : S.clash = false → CyG S) {F1 : FS} {W : WS} {fo1 : List Nat} (hA : AllR S ((F1, W), fo1)) {os' : Os} {nx' : Nat} (hlt : 16 ≤ nx') (hg : GetsO os' [0, 1, 2, 3, 4, 5, 6, 7, 8, 9, 10, 11, 12, 13, 14, 15] (cObs { S with F := F1 } ++ wObs W ++ [.cells 103 [.ptr 12 0], .cells 41 [.osl 15 1 (([] : List Int).map intC)], .tok 3 1 ([] : List Int).length])) {Q' : AV → Os → Nat → Prop}
    (hq : ∀ (F2 : FS), (S.clash = false → FSame S.F F2) → Q' (.tup []) (putsO os' ([0, 1, 2, 3, 4, 5, 6, 7, 8, 9, 10, 11, 12, 13, 14, 15].zip (cObs { S with F := F2 } ++ wObs W ++ [.cells 103 [.ptr 12 0], .cells 41 [.osl 15 1 ((CycL S).map intC)], .tok 3 1 (CycL S).length]))) nx') : ACalls Try.prog 74 [.ptr 0 0, .clo 75 [.ptr 13 0, .ptr 14 0]] os' nx' Q' := by
  have ren : ∀ (F1 : FS) (o : List Int), RenOs (renOf [0, 1, 2, 3, 4, 5, 6, 7, 8, 9, 10, 11, 12, 13, 14, 15] nx') 0 (cObs { S with F := F1 } ++ wObs W ++ [.cells 103 [.ptr 12 0], .cells 41 [.osl 15 1 (o.map intC)], .tok 3 1 o.length]) (cObs { S with F := F1 } ++ wObs W ++ [.cells 103 [.ptr 12 0], .cells 41 [.osl 15 1 (o.map intC)], .tok 3 1 o.length]) := fun F1 o =>
    ⟨.cells ⟨.v _, .ptr rfl, .ptr rfl, .own rfl, .v _, trivial⟩, .cells ⟨.osl rfl (GNode.dataRows S.G.N), .map rfl, trivial⟩, .tok, .map (vC_data S.G.V), .cells ⟨.own rfl, .own rfl, .v _, .v _, trivial⟩, .row (nC_data _), .row (iC_data _), .row (iC_data _),
      .map (mC_dataI _), .map (mC_dataB _), .map (mC_dataI _), .map (mC_dataI _), .cells ⟨.map rfl, .map rfl, .map rfl, .map rfl, .v _, .v _, trivial⟩, .cells ⟨.ptr rfl, trivial⟩, .cells ⟨.osl rfl (by first | exact iC_data _ | exact iC_rows _), trivial⟩, .tok, trivial⟩
  exact ACalls.atE (σ := FS × List Int) (C := fun s => (S.clash = false → FSame S.F s.1) ∧ s.2 = CycL S) (args := [.ptr 0 0, .clo 75 [.ptr 13 0, .ptr 14 0]]) (R := fun s => .tup []) (R' := fun s => .tup []) (obs := cObs { S with F := F1 } ++ wObs W ++ [.cells 103 [.ptr 12 0], .cells 41 [.osl 15 1 (([] : List Int).map intC)], .tok 3 1 ([] : List Int).length]) (obs1 := fun s => cObs { S with F := s.1 } ++ wObs W ++ [.cells 103 [.ptr 12 0], .cells 41 [.osl 15 1 (s.2.map intC)], .tok 3 1 s.2.length]) (obs' := cObs { S with F := F1 } ++ wObs W ++ [.cells 103 [.ptr 12 0], .cells 41 [.osl 15 1 (([] : List Int).map intC)], .tok 3 1 ([] : List Int).length]) (obs1' := fun s => cObs { S with F := s.1 } ++ wObs W ++ [.cells 103 [.ptr 12 0], .cells 41 [.osl 15 1 (s.2.map intC)], .tok 3 1 s.2.length]) [0, 1, 2, 3, 4, 5, 6, 7, 8, 9, 10, 11, 12, 13, 14, 15]
    (eachB hS hA) rfl (fun _ => rfl) (by decide) (by simp only [List.mem_cons, List.not_mem_nil, or_false]; omega) ⟨.ptr rfl, .clo ⟨.ptr rfl, .ptr rfl, trivial⟩, trivial⟩ (fun s => .tup trivial) (ren F1 []) hg (fun s => ren s.1 s.2) (fun s hs => by rw [hs.2]; exact hq s.1 hs.1)
theorem Cyclic_c (S : CS) (hS : S.clash = false → CyG S) : CCalls (σ := List Int) 48 [.ptr 0 0] (S) (fun s => s.1 = { S with F := s.1.F } ∧ (S.clash = false → FSame S.F s.1.F) ∧ s.2 = CycL S) (fun s => .sl 1 (s.map intC)) := by
  refine ACalls.clean (C := fun r os => ∃ s : CS × List Int, (s.1 = { S with F := s.1.F } ∧ (S.clash = false → FSame S.F s.1.F) ∧ s.2 = CycL S) ∧ r = (fun s : List Int => .sl 1 (s.map intC)) s.2 ∧ os = enumO 0 (cObs s.1)) ?_
  refine ACalls_intro Try.func48 (by kernel_rfl) rfl (by rw [Try.ntmps48]; simp) (fun hm => ?_)
  simp only [Try.ntmps48, Try.results48, List.length_cons, List.length_nil, Nat.reduceAdd, Nat.reduceSub, List.replicate_succ, List.replicate_zero, List.cons_append, List.nil_append]
  simp only [cObs, enumO, Nat.reduceAdd]
  refine AWp_seqK fun Y0 y0 => ?_
  refine AWp_region ?_
  simp only [↓bO, go_sem, seval]
  refine y0 _ ?_
  try clear y0 Y0
  refine AWp_seqK fun Y0 y0 => ?_
  refine AWp_region ?_
  refine aops_chunk 1 fun Q0 q0 => ?_
  simp only [↓bO, go_sem, seval]
  refine q0 _ ?_
  clear q0 Q0
  simp only [go_sem]
  refine aops_chunk 1 fun Q0 q0 => ?_
  simp only [↓bO, go_sem, seval]
  refine ACalls.mono (show ACalls Try.prog 73 _ (enumO 0 (cObs S)) 8 _ from all_c S hS) ?_
  rintro z os' nx' ⟨⟨⟨⟨F1, W1⟩, fo1⟩, hA, rfl, rfl⟩, rfl⟩
  dsimp only
  simp only [aOs, cObs, enumO, Nat.reduceAdd]
  try simp only [bS, bA, thenQ, blockQ, noGotoQ]
  refine q0 _ ?_
  clear q0 Q0
  simp only [go_sem]
  refine aops_chunk 1 fun Q0 q0 => ?_
  simp only [↓bO, go_sem, seval]
  refine q0 _ ?_
  clear q0 Q0
  simp only [go_sem]
  simp only [↓bO, go_sem, seval]
  refine y0 _ ?_
  try clear y0 Y0
  refine AWp_seqK fun Y0 y0 => ?_
  refine AWp_region ?_
  simp only [↓bO, go_sem, seval]
  refine y0 _ ?_
  try clear y0 Y0
  refine AWp_weak (Weak.tokCell 3 1 (id := 14) [.osl 15 1 []] rfl ⟨.inr ⟨rfl, rfl⟩, trivial⟩) ?_
  simp only [putO, Nat.reduceEqDiff, ↓reduceIte, List.set_cons_zero, List.set_cons_succ, Nat.reduceAdd]
  refine AWp_seqK fun Y0 y0 => ?_
  refine AWp_region ?_
  iterate 2 (refine aops_chunk 1 fun Q0 q0 => ?_; simp only [↓bO, go_sem, seval]; refine q0 _ ?_; clear q0 Q0; simp only [go_sem])
  simp only [↓bO, go_sem, seval]
  refine eachB_at hS hA (by omega) ⟨rfl, rfl, rfl, rfl, rfl, rfl, rfl, rfl, rfl, rfl, rfl, rfl, rfl, rfl, rfl, rfl, trivial⟩ (fun F2 hF2 => ?_)
  simp only [cObs, wObs, List.cons_append, List.nil_append, List.zip_cons_cons, List.zip_nil_left, List.zip_nil_right, putsO, putO, Nat.reduceEqDiff, ↓reduceIte]
  try simp only [bS, bA, thenQ, blockQ, noGotoQ]
  refine y0 _ ?_
  try clear y0 Y0
  refine AWp_joinF (σ := FS) [false, false, true, false, false, false, false, false, false, false, false] (fun y3 => [(2, .sl 1 ((CycL S).map intC))]) (fun y3 => [(0, .cells 89 [.v (.int .i64 S.steps), .ptr 1 0, .ptr 4 0, .own 7 S.W.length, .v (.bool S.clash)]), (1, .cells 118 [.osl 2 4 (S.G.N.map GNode.cells), .map 3]), (2, .tok 128 4 S.G.N.length), (3, .map (S.G.V.map vC)), (4, .cells 115 [.own 5 y3.up.length, .own 6 y3.rank.length, .v (.int .i64 y3.sets), .v (.int .i64 y3.steps)]), (5, .row 3 1 (y3.up.map nC)), (6, .row 3 1 (y3.rank.map intC)), (7, .row 3 1 (S.W.map intC))]) 8 (fun y3 => (S.clash = false → FSame S.F y3)) ?_ (fun y3 hy3 => ?_)
  ·
   refine AWp_region ?_
   refine aops_chunk 1 fun Q0 q0 => ?_
   simp only [↓bO, go_sem, seval]
   refine q0 _ ?_
   clear q0 Q0
   simp only [go_sem]
   simp only [↓bO, go_sem, seval]
   try simp only [maskL, setsL, putsO, putO, mB, List.set_cons_zero, List.set_cons_succ, seval]
   refine ⟨F2, hF2, ?_⟩
   refine Weak.freeze ?_ ⟨rfl, rfl, rfl, rfl, rfl, rfl, rfl, rfl, trivial⟩ (by first | omega | (simp only; omega)) (by first | omega | (simp only; omega)) ?_ ?_
   · repeat' first | trivial | exact .inr ⟨_, _, _, rfl, rfl, rfl, rfl⟩ | exact .inl (.refl _) | exact .inl (.any _) | exact .inl (Le.osl _ _ _) | (refine ⟨?_, ?_⟩)
   · repeat' first | exact trivial | exact .any _ | exact .ptr (by omega) | exact .own (by omega) | exact .v _ _ | exact Und.data (EqT.dataSl _) | exact Und.data (dataInts _) | (refine ⟨?_, ?_⟩)
   · repeat' first | exact trivial | (with_reducible omega) | exact .any _ | exact .ptr (by omega) | exact .own (by omega) | exact .v _ _ | exact .map (by omega) | exact Und.oslG (by omega) | exact Und.rowI (nC_data _) | exact Und.rowI (iC_data _) | exact (fun p hp => .data (vC_data _ p hp)) | (refine ⟨?_, ?_⟩)
  simp only [maskL, setsL, putsO, putO, mB, List.set_cons_zero, List.set_cons_succ, seval]
  refine AWp_ret ?_
  try simp only [thenQ, blockQ, noGotoQ, retQ, aRes, tupOf, bS, bA]
  refine ⟨_, enumO 0 (cObs ({ S with F := y3 })), ⟨({ S with F := y3 }, CycL S), ?_, rfl, rfl⟩, .data (dataInts _), cUnd (by omega) _, ?_, ?_, by omega⟩
  · exact ⟨rfl, hy3, rfl⟩
  ·
   exact Le.refl _
  · first | (refine ⟨0, rfl, rfl⟩) | (refine ⟨0, by simp only [cObs, enumO, List.drop_zero, List.drop_succ_cons, Nat.reduceAdd], rfl⟩)
end Go.Proofs.Ytjjjckjebkmnjaa
namespace Go.Proofs.Ytjjjckjebkmnjaa
open Go Go.RowKit
theorem nodup_sub : ∀ {l m : List Int}, l.Nodup → (∀ x ∈ l, x ∈ m) → l.length ≤ m.length
  | [], m, _, _ => by simp
  | x :: l, m, hn, hs => by
    have h1 := List.nodup_cons.1 hn
    have h2 := nodup_sub (l := l) (m := m.erase x) h1.2 fun y hy => (List.mem_erase_of_ne (fun (e : y = x) => h1.1 (by rw [← e]; exact hy))).2 (hs y (by simp [hy]))
    rw [List.length_erase_of_mem (hs x (by simp))] at h2
    have := List.length_pos_of_mem (hs x (by simp))
    rw [List.length_cons]; omega
def NxOk (M : List RNode) (c : List Int) : Prop := c.length = M.length ∧ ∀ i, (nextI M c i).length ≤ 8 ∧ ∀ p ∈ nextI M c i, 0 ≤ p ∧ p < (M.length : Int)
structure CoI (M : List RNode) (c : List Int) (i : Nat) (out nx : List Int) (n : Nat) : Prop where
  nd : out.Nodup
  src : ∀ x ∈ out, ∃ j, j < M.length ∧ Pls (nextN M c) i j ∧ c[j]? = some x
  nxt : ∀ q ∈ nx, 0 ≤ q ∧ q < (M.length : Int) ∧ Pls (nextN M c) i q.toNat
  done : ∀ (m : Nat) (q : Int), m < n → nx[m]? = some q → ∃ x ∈ out, c[q.toNat]? = some x
  cov : ∀ x ∈ out, ∀ j, j < M.length → c[j]? = some x → ∀ p ∈ nextI M c j, p ∈ nx
  st : ∀ p ∈ nextI M c i, p ∈ nx
  len : nx.length ≤ 8 * (out.length + 1)
  le : n ≤ nx.length
def ComesR (M : List RNode) (c : List Int) (i : Nat) (L : List Int) : Prop := L.length ≤ M.length ∧ ∀ x, x ∈ L ↔ ∃ j, j < M.length ∧ Pls (nextN M c) i j ∧ c[j]? = some x
section
variable {M : List RNode} {c : List Int} {i n : Nat} {out nx : List Int}
theorem mem_nextN {p : Int} {j : Nat} (h : p ∈ nextI M c j) : p.toNat ∈ nextN M c j := List.mem_map.2 ⟨p, h, rfl⟩
theorem CoI.start (h : NxOk M c) (i : Nat) : CoI M c i [] (nextI M c i) 0 :=
  ⟨by simp, by simp, fun q hq => ⟨((h.2 i).2 q hq).1, ((h.2 i).2 q hq).2, ⟨_, mem_nextN hq, .refl _⟩⟩, fun m q hm => by omega, by simp, fun _ hp => hp, by have := (h.2 i).1; simpa using this, Nat.zero_le _⟩
theorem CoI.outs (h : CoI M c i out nx n) (hc : NxOk M c) : out.length ≤ M.length := by
  have h1 := nodup_sub h.nd (m := c) fun x hx => by
    obtain ⟨j, _, _, e⟩ := h.src x hx
    exact List.mem_of_getElem? e
  rw [hc.1] at h1; exact h1
theorem CoI.bound (h : CoI M c i out nx n) (hc : NxOk M c) : nx.length ≤ 8 * (M.length + 1) := by
  have := h.outs hc
  have := h.len
  omega
theorem CoI.new (h : CoI M c i out nx n) (hc : NxOk M c) {q x : Int} (hq : nx[n]? = some q) (hx : c[q.toNat]? = some x) (hm : x ∉ out) : CoI M c i (out ++ [x]) (nx ++ nextI M c q.toNat) (n + 1) := by
  have hqm := h.nxt q (List.mem_of_getElem? hq)
  have hql : q.toNat < M.length := by omega
  refine ⟨?_, fun y hy => ?_, fun p hp => ?_, fun m p hm2 hp => ?_, fun y hy j hj hcj p hp => ?_, fun p hp => List.mem_append.2 (.inl (h.st p hp)), ?_, ?_⟩
  · rw [List.nodup_append]
    exact ⟨h.nd, by simp, fun a ha b hb => by simp at hb; subst hb; exact fun e => hm (e ▸ ha)⟩
  · rcases List.mem_append.1 hy with hy | hy
    · exact h.src y hy
    · simp at hy; subst hy; exact ⟨q.toNat, hql, hqm.2.2, hx⟩
  · rcases List.mem_append.1 hp with hp | hp
    · exact h.nxt p hp
    · have h1 := (hc.2 q.toNat).2 p hp
      exact ⟨h1.1, h1.2, hqm.2.2.next (mem_nextN hp)⟩
  · have hnl := (List.getElem?_eq_some_iff.1 hq).1
    rw [List.getElem?_append_left (by omega)] at hp
    rcases Nat.lt_or_ge m n with h1 | h1
    · obtain ⟨y, hy, e⟩ := h.done m p h1 hp
      exact ⟨y, List.mem_append.2 (.inl hy), e⟩
    · obtain rfl : m = n := by omega
      rw [hq] at hp; cases hp; exact ⟨x, by simp, hx⟩
  · rcases List.mem_append.1 hy with hy | hy
    · exact List.mem_append.2 (.inl (h.cov y hy j hj hcj p hp))
    · simp at hy; subst hy
      rw [nextI_col (hcj.trans hx.symm)] at hp
      exact List.mem_append.2 (.inr hp)
  · have := h.len
    have := (hc.2 q.toNat).1
    simp only [List.length_append, List.length_singleton]; omega
  · have := (List.getElem?_eq_some_iff.1 hq).1
    rw [List.length_append]; omega
theorem CoI.fin (h : CoI M c i out nx n) (hc : NxOk M c) (hn : nx.length ≤ n) : ComesR M c i out := by
  have hQ : ∀ p ∈ nx, ∃ x ∈ out, c[p.toNat]? = some x := fun p hp => by
    obtain ⟨m, hm, e⟩ := List.mem_iff_getElem.1 hp
    exact h.done m p (by omega) (by rw [List.getElem?_eq_getElem hm, e])
  have hstep : ∀ (u v : Nat), u < M.length → (∃ x ∈ out, c[u]? = some x) → v ∈ nextN M c u → v < M.length ∧ ∃ x ∈ out, c[v]? = some x := fun u v hu ⟨x, hx, e⟩ hv => by
    obtain ⟨p, hp, rfl⟩ := List.mem_map.1 hv
    have h1 := (hc.2 u).2 p hp
    exact ⟨by omega, hQ p (h.cov x hx u hu e p hp)⟩
  have hrch : ∀ {u v : Nat}, Rch (nextN M c) u v → u < M.length → (∃ x ∈ out, c[u]? = some x) → ∃ x ∈ out, c[v]? = some x := fun hr => by
    induction hr with
    | refl _ => exact fun _ h => h
    | @step u v w hv _ ih => exact fun hu hx => ih (hstep u v hu hx hv).1 (hstep u v hu hx hv).2
  refine ⟨h.outs hc, fun x => ⟨h.src x, ?_⟩⟩
  rintro ⟨j, hj, ⟨v, hv, hr⟩, e⟩
  obtain ⟨p, hp, rfl⟩ := List.mem_map.1 hv
  have h1 := (hc.2 i).2 p hp
  obtain ⟨y, hy, e2⟩ := hrch hr (by omega) (hQ p (h.st p hp))
  rw [e] at e2; cases e2; exact hy
theorem ComesR.loop (h : ComesR M c i out) {x : Int} (hx : c[i]? = some x) : x ∈ out ↔ LoopD M c i := by
  rw [h.2 x, LoopD, hx]
theorem ComesR.col (h : ComesR M c i out) {k : Nat} {x : Int} (hx : c[k]? = some x) : x ∈ out ↔ ∃ j, j < M.length ∧ Pls (nextN M c) i j ∧ c[j]? = c[k]? := by
  rw [h.2 x, hx]
end
open Classical in
noncomputable def finB (M : List RNode) (c : List Int) : Bool := decide (∀ i, i < M.length → ¬ LoopD M c i)
open Classical in
noncomputable def lpB (M : List RNode) (c : List Int) (i : Nat) : Bool := decide (LpD M c i)
theorem finB_iff {M : List RNode} {c : List Int} : finB M c = true ↔ ∀ i, i < M.length → ¬ LoopD M c i := by
  classical
  unfold finB; rw [decide_eq_true_eq]
theorem lpB_iff {M : List RNode} {c : List Int} {i : Nat} : lpB M c i = true ↔ LpD M c i := by
  classical
  unfold lpB; rw [decide_eq_true_eq]
noncomputable def wantC (M : List RNode) (c : List Int) (L : List Int) : List Int := L.filter fun v => lpB M c (idxI (RNode.isVar v) M).toNat
section
variable {l : List (Ty × Ty)} {M : List RNode} {c : List Int} {S : CS}
theorem PSt.var_at (h : PSt l M c S) {a : Int} (ha : a ∈ varsI M) : ∃ q : Nat, idxI (RNode.isVar a) M = (q : Int) ∧ q < M.length ∧ vfind S.G.V a = some (q : Int) := by
  obtain ⟨q, hq, hl⟩ := var_idx ha
  exact ⟨q, hq, hl, Go.Proofs.Ytjjjckjebkmnjaa.var_at h hq⟩
theorem PSt.cyc (h : PSt l M c S) : CycL S = wantC M c (varsI M) := by
  unfold CycL wantC
  rw [if_neg (by rw [h.h.1]; decide), h.sort]
  refine List.filter_congr fun v hv => ?_
  obtain ⟨q, h1, h2, h3⟩ := h.var_at hv
  rw [Bool.eq_iff_iff, CycP_iff h3 (by rw [Int.toNat_natCast]; exact h.rt h2), lpB_iff, h1, Int.toNat_natCast, h.lp_iff h2]
theorem PSt.fin_iff (h : PSt l M c S) : finB M c = true ↔ ∀ y, ¬ Pls (kids S) y y := by
  rw [finB_iff]
  constructor
  · intro hf y hp
    have hy : y < M.length := by rw [← h.nl]; exact hp.root.lt
    exact hf y hy ((h.loop_iff hy).2 (by rw [rootF_eq hp.root]; exact hp))
  · exact fun hf i hi hl => hf _ ((h.loop_iff hi).1 hl)
theorem PSt.count (h : PSt l M c S) {b : Bool} {n : Int} (hr : CountR S (b, n)) : b = finB M c ∧ 0 ≤ n ∧ n ≤ 11 * (M.length : Int) := by
  rcases hr with ⟨h1, _⟩ | ⟨_, h2, h3, h4, h5⟩
  · rw [h.h.1] at h1; cases h1
  · refine ⟨?_, h4, by have := h.nl; dsimp only at h5; omega⟩
    dsimp only at h2 h3
    cases b with
    | true => exact (h.fin_iff.2 fun y => h.no_loop (h3 rfl) y).symm
    | false =>
      cases hf : finB M c with
      | false => rfl
      | true =>
        obtain ⟨y, _, hp⟩ := h2 rfl
        exact absurd hp (h.fin_iff.1 hf y)
end
end Go.Proofs.Ytjjjckjebkmnjaa
namespace Go.Proofs.Ytjjjckjebkmnjaa
open Go Go.RowKit
theorem Holds.pst {l : List (Ty × Ty)} {S : CS} (ho : OkE l) (h : Holds l S) (hk : S.G.V.map Prod.fst = vns (eqF l).1) (hl : (eqF l).1.length ≤ 1048576) : ∃ c, PSt l (eqF l).1 c S := by
  refine ⟨(List.range (eqF l).1.length).map fun i => (rootF S i : Int), h, ⟨ho, by simp, fun i k hi hk => ?_⟩, rfl, hl, hk⟩
  rw [List.getElem?_map, List.getElem?_map, List.getElem?_range hi, List.getElem?_range hk]
  simp only [Option.map_some, Option.some.injEq]
  have h1 : Rt S.F.up i (rootF S i) := rootF_rt h.2.w.c (by rw [h.2.rel.len]; exact hi)
  have h2 : Rt S.F.up k (rootF S k) := rootF_rt h.2.w.c (by rw [h.2.rel.len]; exact hk)
  rw [← rt_iff_cl h h1]
  constructor
  · intro e
    have e2 : rootF S i = rootF S k := by omega
    rw [e2]; exact h2
  · intro hr; rw [Rt.det h2 hr]
theorem CSt.pst {l : List (Ty × Ty)} {S : CS} (h : CSt l S) (hc : S.clash = false) (hl : S.G.N.length ≤ 1048576) : ∃ c, PSt l (eqF l).1 c S := by
  obtain ⟨hH, hK⟩ := h.good hc
  exact hH.pst h.ok hK (by rw [← hH.2.rel.len]; exact hl)
theorem CSt.cyG {l : List (Ty × Ty)} {S : CS} (h : CSt l S) (hl : S.G.N.length ≤ 1048576) : S.clash = false → CyG S := fun hc => by
  obtain ⟨c, hp⟩ := h.pst hc hl
  exact hp.cyG
theorem Tl.noloop {K : Nat → List Nat} {u : Nat} {a : Int × Int} (h : Tl K u a) : ¬ Pls K u u := by
  induction h with
  | mk u f _ ih =>
    rintro ⟨v, hv, hr⟩
    exact ih v hv (Pls.of_rch hr hv)
theorem raddL_types {P : Ty → Prop} : ∀ (ps : List Ty), (∀ p ∈ ps, ∀ m : List RNode, (∀ r ∈ m, P r.t) → ∀ r ∈ (p.radd m).1, P r.t) → ∀ (m : List RNode) (l : List Int), (∀ r ∈ m, P r.t) → ∀ r ∈ (Ty.raddL ps m l).1, P r.t
  | [], _, m, l, hm => by unfold Ty.raddL; exact hm
  | p :: ps, h, m, l, hm => by
    unfold Ty.raddL
    exact raddL_types ps (fun q hq => h q (by simp [hq])) _ _ (h p (by simp) m hm)
theorem radd_types {P : Ty → Prop} (hP : ∀ t, P t → ∀ p ∈ t.ps, P p) : ∀ t : Ty, P t → ∀ m : List RNode, (∀ r ∈ m, P r.t) → ∀ r ∈ (t.radd m).1, P r.t := by
  refine Ty.ind fun t ih ht m hm => ?_
  obtain ⟨k, n, ps⟩ := t
  unfold Ty.radd
  split
  · exact hm
  · intro r hr
    dsimp only at hr
    rcases List.mem_append.1 hr with hr | hr
    · exact raddL_types ps (fun p hp => ih p hp (hP _ ht p hp)) m [] hm r hr
    · simp at hr; subst hr; exact ht
theorem eqF_types {P : Ty → Prop} (hP : ∀ t, P t → ∀ p ∈ t.ps, P p) : ∀ l, OkE l → (∀ e ∈ l, P e.1 ∧ P e.2) → ∀ r ∈ (eqF l).1, P r.t :=
  eqF_ind (P := fun l => (∀ e ∈ l, P e.1 ∧ P e.2) → ∀ r ∈ (eqF l).1, P r.t) (fun _ r hr => by simp [eqF] at hr) fun d e _ _ ih he r hr => by
    rw [eqF_snoc] at hr
    have h1 := ih fun x hx => he x (by simp [hx])
    have h2 := he e (by simp)
    exact radd_types hP e.2 h2.2 _ (radd_types hP e.1 h2.1 _ h1) r hr
theorem eqF_src : ∀ l, OkE l → ∀ x ∈ nat2 (eqF l).2, ∃ e ∈ l, (((eqF l).1[x.1]?).map RNode.t = some e.1) ∧ (((eqF l).1[x.2]?).map RNode.t = some e.2) :=
  eqF_ind (fun x hx => by simp [eqF, nat2] at hx) fun d e h hd ih x hx => by
    have hp := eqF_pre1 h
    obtain ⟨⟨G, hG⟩, _⟩ := eqF_ok d fun x hx => hd x hx
    obtain ⟨h1, h2, h3, h4⟩ := h e (by simp)
    have s1 := rel_add e.1 h1 h3 G _ hG
    have s2 := rel_add e.2 h2 h4 _ _ s1.rel
    rw [eqF_snoc] at hx
    simp only [eqStep, nat2, List.map_append, List.mem_append, List.map_cons, List.map_nil] at hx
    rcases hx with hx | hx
    · obtain ⟨y, hy, e1, e2⟩ := ih x hx
      exact ⟨y, by simp [hy], hp.get e1, hp.get e2⟩
    · simp only [List.mem_singleton] at hx
      subst hx
      refine ⟨e, by simp, ?_, ?_⟩
      · rw [eqF_snoc]; exact s2.pre.get s1.at'
      · rw [eqF_snoc]; exact s2.at'
def vT (i : Nat) : Ty := .mk 1 (i : Int) []
def dT (i : Nat) : Ty := .mk 4 0 [vT (i + 1), vT (i + 1)]
def iT : Ty := .mk 2 0 []
def gE (k : Nat) : List (Ty × Ty) := (List.range k).map fun i => (vT i, dT i)
def gF (k : Nat) : List (Ty × Ty) := gE k ++ [(vT k, iT)]
theorem gE_succ (k : Nat) : gE (k + 1) = gE k ++ [(vT k, dT k)] := by simp [gE, List.range_succ]
theorem vT_cnt (i : Nat) : (vT i).cnt = 1 := by simp [vT, Ty.cnt, Ty.cntL]
theorem vT_ok (i : Nat) (h : i ≤ 1001) : (vT i).right = true ∧ (vT i).cnt = 1 := by
  refine ⟨?_, vT_cnt i⟩
  rw [vT, Ty.right_eq]
  simp [okN, Ty.k, Ty.n, Ty.ps]
  omega
theorem dT_cnt (i : Nat) : (dT i).cnt = 3 := by simp [dT, Ty.cnt, Ty.cntL, vT_cnt]
theorem dT_ok (i : Nat) (h : i ≤ 1000) : (dT i).right = true ∧ (dT i).cnt = 3 := by
  have h := vT_ok (i + 1) (by omega)
  refine ⟨?_, dT_cnt i⟩
  rw [dT, Ty.right_eq]; simp [okN, Ty.k, Ty.n, Ty.ps, h.1]
theorem iT_ok : iT.right = true ∧ iT.cnt = 1 := by
  constructor
  · rw [iT, Ty.right_eq]; simp [okN, Ty.k, Ty.n, Ty.ps]
  · simp [iT, Ty.cnt, Ty.cntL]
theorem gE_ok (k : Nat) (hk : k ≤ 1000) : OkE (gE k) := fun e he => by
  obtain ⟨i, hi, rfl⟩ := List.mem_map.1 he
  have hi : i < k := by simpa using hi
  have h1 := vT_ok i (by omega)
  have h2 := dT_ok i (by omega)
  exact ⟨h1.1, h2.1, by dsimp only; omega, by dsimp only; omega⟩
theorem gF_ok (k : Nat) (hk : k ≤ 1000) : OkE (gF k) := fun e he => by
  rcases List.mem_append.1 he with he | he
  · exact gE_ok k hk e he
  · simp at he; subst he
    have h1 := vT_ok k (by omega)
    have h2 := iT_ok
    exact ⟨h1.1, h2.1, by dsimp only; omega, by dsimp only; omega⟩
theorem sumP_gE : ∀ k, sumP (gE k) = 4 * k
  | 0 => rfl
  | k + 1 => by
    rw [gE_succ, sumP_snoc, sumP_gE k]
    have h1 := vT_cnt k
    have h2 := dT_cnt k
    dsimp only
    omega
inductive ValT (k : Nat) : Ty → Nat → Prop
  | var (i : Nat) (h : i ≤ k) : ValT k (vT i) (k - i)
  | int : ValT k iT 0
  | fn (i : Nat) (h : i < k) : ValT k (dT i) (k - i)
theorem ValT.ps {k : Nat} {t : Ty} {n : Nat} (h : ValT k t n) : ∀ p ∈ t.ps, ∃ n, ValT k p n := by
  cases h with
  | var i h => intro p hp; cases hp
  | int => intro p hp; cases hp
  | fn i h =>
    intro p hp
    have : p = vT (i + 1) := by simpa [dT, Ty.ps] using hp
    subst this
    exact ⟨_, .var (i + 1) (by omega)⟩
theorem ValT.inv {k : Nat} {t : Ty} {n : Nat} (h : ValT k t n) : (∃ i, i ≤ k ∧ t = vT i ∧ n = k - i) ∨ (t = iT ∧ n = 0) ∨ ∃ i, i < k ∧ t = dT i ∧ n = k - i := by
  cases h with
  | var i h => exact .inl ⟨i, h, rfl, rfl⟩
  | int => exact .inr (.inl ⟨rfl, rfl⟩)
  | fn i h => exact .inr (.inr ⟨i, h, rfl, rfl⟩)
theorem vT_inj {i j : Nat} (h : vT i = vT j) : i = j := by
  have h1 := congrArg Ty.n h
  simp only [vT, Ty.n] at h1
  omega
theorem dT_inj {i j : Nat} (h : dT i = dT j) : i = j := by
  have h1 := congrArg Ty.ps h
  simp only [dT, Ty.ps, List.cons.injEq] at h1
  have := vT_inj h1.1
  omega
theorem ValT.det {k : Nat} {t : Ty} {n m : Nat} (h : ValT k t n) (h2 : ValT k t m) : n = m := by
  rcases h.inv with ⟨i, hi, rfl, rfl⟩ | ⟨rfl, rfl⟩ | ⟨i, hi, rfl, rfl⟩
  · rcases h2.inv with ⟨j, hj, e, rfl⟩ | ⟨e, rfl⟩ | ⟨j, hj, e, rfl⟩
    · rw [vT_inj e]
    · have := congrArg Ty.k e; simp [vT, iT, Ty.k] at this
    · have := congrArg Ty.k e; simp [vT, dT, Ty.k] at this
  · rcases h2.inv with ⟨j, hj, e, rfl⟩ | ⟨e, rfl⟩ | ⟨j, hj, e, rfl⟩
    · have := congrArg Ty.k e; simp [vT, iT, Ty.k] at this
    · rfl
    · have := congrArg Ty.k e; simp [iT, dT, Ty.k] at this
  · rcases h2.inv with ⟨j, hj, e, rfl⟩ | ⟨e, rfl⟩ | ⟨j, hj, e, rfl⟩
    · have := congrArg Ty.k e; simp [vT, dT, Ty.k] at this
    · have := congrArg Ty.k e; simp [iT, dT, Ty.k] at this
    · rw [dT_inj e]
theorem gF_types (k : Nat) (hk : k ≤ 1000) : ∀ r ∈ (eqF (gF k)).1, ∃ n, ValT k r.t n :=
  eqF_types (P := fun t => ∃ n, ValT k t n) (fun t ⟨n, h⟩ p hp => h.ps p hp) _ (gF_ok k hk) fun e he => by
    rcases List.mem_append.1 he with he | he
    · obtain ⟨i, hi, rfl⟩ := List.mem_map.1 he
      have : i < k := by simpa using hi
      exact ⟨⟨_, .var i (by omega)⟩, ⟨_, .fn i this⟩⟩
    · simp at he; subst he
      exact ⟨⟨_, .var k (Nat.le_refl _)⟩, ⟨_, .int⟩⟩
theorem gF_eq (k : Nat) : ∀ e ∈ gF k, ∃ n, ValT k e.1 n ∧ ValT k e.2 n := fun e he => by
  rcases List.mem_append.1 he with he | he
  · obtain ⟨i, hi, rfl⟩ := List.mem_map.1 he
    have : i < k := by simpa using hi
    exact ⟨_, .var i (by omega), .fn i this⟩
  · simp at he; subst he
    exact ⟨_, by have := ValT.var (k := k) k (Nat.le_refl _); rw [Nat.sub_self] at this; exact this, .int⟩
theorem gF_closed (k : Nat) (hk : k ≤ 1000) {G : GS} (hG : Rel G (eqF (gF k)).1) : Closed (shR (eqF (gF k)).1) (nat2 (eqF (gF k)).2) (fun i j => i = j ∨ ∃ (x y : RNode) (n : Nat), (eqF (gF k)).1[i]? = some x ∧ (eqF (gF k)).1[j]? = some y ∧ ValT k x.t n ∧ ValT k y.t n) := by
  refine ⟨fun e he => ?_, fun _ => .inl rfl, fun i j h => ?_, fun a b d h1 h2 => ?_, fun a b j c p q ps qs h ha hb hc hl hp hq => ?_⟩
  · obtain ⟨x, hx, e1, e2⟩ := eqF_src _ (gF_ok k hk) e he
    obtain ⟨n, h1, h2⟩ := gF_eq k x hx
    obtain ⟨a, ha, ea⟩ := Option.map_eq_some_iff.1 e1
    obtain ⟨b, hb, eb⟩ := Option.map_eq_some_iff.1 e2
    exact .inr ⟨a, b, n, ha, hb, by rw [ea]; exact h1, by rw [eb]; exact h2⟩
  · rcases h with rfl | ⟨x, y, n, h1, h2, h3, h4⟩
    · exact .inl rfl
    · exact .inr ⟨y, x, n, h2, h1, h4, h3⟩
  · rcases h1 with rfl | ⟨x, y, n, h1, h2', h3, h4⟩
    · exact h2
    · rcases h2 with rfl | ⟨x', y', n', g1, g2, g3, g4⟩
      · exact .inr ⟨x, y, n, h1, h2', h3, h4⟩
      · rw [h2'] at g1; cases g1
        cases h4.det g3
        exact .inr ⟨x, y', n, h1, g2, h3, g4⟩
  · rcases h with rfl | ⟨x, y, n, h1, h2, h3, h4⟩
    · rw [ha] at hb; cases hb; rw [hp] at hq; cases hq; exact .inl rfl
    · obtain ⟨x', hx', rfl, rfl⟩ := shR_at ha
      obtain ⟨y', hy', hyk, rfl⟩ := shR_at hb
      rw [h1] at hx'; cases hx'
      rw [h2] at hy'; cases hy'
      have part : ∀ {u : Nat} {z : RNode} {w : Int}, (eqF (gF k)).1[u]? = some z → z.parts[j]? = some w → ∃ (r : RNode) (t : Ty), z.t.ps[j]? = some t ∧ (eqF (gF k)).1[w.toNat]? = some r ∧ r.t = t := fun {u z w} hz hw => by
        have hu := (List.getElem?_eq_some_iff.1 hz).1
        obtain ⟨_, _, f3, _, _, _, f7, f8⟩ := hG.node u _ _ (List.getElem?_eq_getElem (by rw [hG.len]; exact hu)) hz
        have hj := (List.getElem?_eq_some_iff.1 hw).1
        have ht : z.t.ps[j]? = some (z.t.ps[j]'(by omega)) := List.getElem?_eq_getElem (by omega)
        have h9 := (f8 j w _ hw ht).2.2
        obtain ⟨r, hr, er⟩ := Option.map_eq_some_iff.1 h9
        exact ⟨r, _, ht, hr, er⟩
      obtain ⟨r, t, ht, hr, rfl⟩ := part h1 hp
      obtain ⟨r', t', ht', hr', rfl⟩ := part h2 hq
      right
      rcases h3.inv with ⟨i, hi, e, rfl⟩ | ⟨e, rfl⟩ | ⟨i, hi, e, rfl⟩
      · rw [e] at ht; simp [vT, Ty.ps] at ht
      · rw [e] at ht; simp [iT, Ty.ps] at ht
      · rcases h4.inv with ⟨i', hi', e', en⟩ | ⟨e', en⟩ | ⟨i', hi', e', en⟩
        · rw [e'] at ht'; simp [vT, Ty.ps] at ht'
        · omega
        · have : i' = i := by omega
          subst this
          have two : ∀ {t : Ty}, (dT i').ps[j]? = some t → t = vT (i' + 1) := fun {t} ht => by
            have hm := List.mem_of_getElem? ht
            simpa [dT, Ty.ps] using hm
          rw [e] at ht; rw [e'] at ht'
          refine ⟨r, r', k - (i' + 1), hr, hr', ?_, ?_⟩
          · rw [two ht]; exact .var _ (by omega)
          · rw [two ht']; exact .var _ (by omega)
theorem gF_no (k : Nat) (hk : k ≤ 1000) : ¬ Clashes (gF k) := by
  obtain ⟨⟨G, hG⟩, _⟩ := eqF_ok (gF k) fun x hx => gF_ok k hk x hx
  rintro ⟨i, j, hc, c, d, ps, qs, hi, hj, h1, h2, h3⟩
  obtain ⟨x, hx, rfl, rfl⟩ := shR_at hi
  obtain ⟨y, hy, rfl, rfl⟩ := shR_at hj
  rcases Cl.least (gF_closed k hk hG) hc with rfl | ⟨x', y', n, e1, e2, v1, v2⟩
  · rw [hx] at hy; cases hy
    rcases h3 with h3 | h3 <;> exact h3 rfl
  · rw [hx] at e1; cases e1
    rw [hy] at e2; cases e2
    have len : ∀ {u : Nat} {z : RNode}, (eqF (gF k)).1[u]? = some z → z.parts.length = z.t.ps.length := fun {u z} hz => by
      have hu := (List.getElem?_eq_some_iff.1 hz).1
      exact (hG.node u _ _ (List.getElem?_eq_getElem (by rw [hG.len]; exact hu)) hz).2.2.2.2.2.2.1
    rw [len hx, len hy] at h3
    rcases v1.inv with ⟨i, _, e, _⟩ | ⟨e, en⟩ | ⟨i, hi', e, en⟩
    · exact h1 (by rw [e]; rfl)
    · rcases v2.inv with ⟨i', _, e', _⟩ | ⟨e', en'⟩ | ⟨i', hi', e', en'⟩
      · exact h2 (by rw [e']; rfl)
      · rw [e, e'] at h3; rcases h3 with h3 | h3 <;> exact h3 rfl
      · omega
    · rcases v2.inv with ⟨i', _, e', _⟩ | ⟨e', en'⟩ | ⟨i', hi', e', en'⟩
      · exact h2 (by rw [e']; rfl)
      · omega
      · rw [e, e'] at h3; rcases h3 with h3 | h3 <;> exact h3 rfl
def gSize : Nat → Int
  | 0 => 1
  | n + 1 => min most (2 * gSize n + 1)
theorem gSize_pos : ∀ n, 1 ≤ gSize n ∧ gSize n ≤ most
  | 0 => by simp [gSize, most]
  | n + 1 => by
    have := gSize_pos n
    simp only [gSize, most] at *
    omega
theorem gF_tl (k : Nat) (hk : k ≤ 1000) {M : List RNode} {c : List Int} {S : CS} (h : PSt (gF k) M c S) : ∀ (n i : Nat) (y : RNode), M[i]? = some y → ValT k y.t n → Tl (kids S) (rootF S i) ((n : Int) + 1, gSize n) := by
  have hm := h.m
  have hG := h.h.2.rel
  rw [← hm] at hG
  have hwhole : ∀ (n i : Nat) (y : RNode), M[i]? = some y → ValT k y.t n → ∃ (j : Nat) (z : RNode), M[j]? = some z ∧ z.t.k ≠ 1 ∧ ValT k z.t n ∧ rootF S i = rootF S j := by
    intro n i y hy hv
    have hfrom : ∀ t : Ty, y.t.k = 1 → (y.t, t) ∈ gF k → t.k ≠ 1 → ValT k t n → ∃ (j : Nat) (z : RNode), M[j]? = some z ∧ z.t.k ≠ 1 ∧ ValT k z.t n ∧ rootF S i = rootF S j := by
      intro t hk1 hin hk2 hvt
      obtain ⟨a, b, ha, hb, hcl⟩ := eqF_tgt _ (gF_ok k hk) _ hin
      rw [← hm] at ha hb
      obtain ⟨x, hx, ex⟩ := Option.map_eq_some_iff.1 ha
      obtain ⟨z, hz, ez⟩ := Option.map_eq_some_iff.1 hb
      have hU := eqF_varU _ (gF_ok k hk)
      rw [← hm] at hU
      have hai : a = i := hU a i x y hx hy (by rw [ex]; exact hk1) hk1 (by rw [ex])
      subst hai
      have hal := (List.getElem?_eq_some_iff.1 hx).1
      have hbl := (List.getElem?_eq_some_iff.1 hz).1
      refine ⟨b, z, hz, by rw [ez]; exact hk2, by rw [ez]; exact hvt, ?_⟩
      have hra := h.rt hal
      exact (rootF_eq ((rt_iff_cl h.h hra).2 hcl)).symm
    rcases hv.inv with ⟨q, hq, e, en⟩ | ⟨e, en⟩ | ⟨q, hq, e, en⟩
    · rcases Nat.lt_or_ge q k with h1 | h1
      · exact hfrom (dT q) (by rw [e]; rfl) (by rw [e]; exact List.mem_append.2 (.inl (List.mem_map.2 ⟨q, by simpa using h1, rfl⟩))) (by simp [dT, Ty.k]) (by rw [en]; exact .fn q h1)
      · have hqk : q = k := by omega
        subst hqk
        exact hfrom iT (by rw [e]; rfl) (by rw [e]; simp [gF]) (by simp [iT, Ty.k]) (by rw [en, Nat.sub_self]; exact .int)
    · exact ⟨i, y, hy, by rw [e]; simp [iT, Ty.k], hv, rfl⟩
    · exact ⟨i, y, hy, by rw [e]; simp [dT, Ty.k], hv, rfl⟩
  intro n
  induction n with
  | zero =>
    intro i y hy hv
    obtain ⟨j, z, hz, hk, hvz, er⟩ := hwhole 0 i y hy hv
    have hj := (List.getElem?_eq_some_iff.1 hz).1
    have hkid := h.kids_node hz hk (h.rt hj)
    obtain ⟨_, _, _, _, _, _, f7, _⟩ := hG.node j _ _ (List.getElem?_eq_getElem (by rw [hG.len]; exact hj)) hz
    have hps : z.parts = [] := by
      rcases hvz.inv with ⟨q, hq, e, en⟩ | ⟨e, en⟩ | ⟨q, hq, e, en⟩
      · exact absurd (by rw [e]; rfl) hk
      · exact List.length_eq_zero_iff.1 (by rw [f7, e]; rfl)
      · omega
    rw [er]
    rw [hps] at hkid
    have := Tl.mk (K := kids S) (rootF S j) (fun _ => (0, 0)) (fun v hv => by rw [hkid] at hv; cases hv)
    rw [hkid] at this
    simpa [tell, gSize] using this
  | succ n ih =>
    intro i y hy hv
    obtain ⟨j, z, hz, hk, hvz, er⟩ := hwhole (n + 1) i y hy hv
    have hj := (List.getElem?_eq_some_iff.1 hz).1
    have hkid := h.kids_node hz hk (h.rt hj)
    obtain ⟨_, _, _, _, _, _, f7, f8⟩ := hG.node j _ _ (List.getElem?_eq_getElem (by rw [hG.len]; exact hj)) hz
    rw [er]
    rcases hvz.inv with ⟨q, hq, e, en⟩ | ⟨e, en⟩ | ⟨q, hq, e, en⟩
    · exact absurd (by rw [e]; rfl) hk
    · omega
    · have hl2 : z.parts.length = 2 := by rw [f7, e]; rfl
      obtain ⟨a, b, hab⟩ : ∃ a b, z.parts = [a, b] := by
        match z.parts, hl2 with
        | [a, b], _ => exact ⟨a, b, rfl⟩
      have at' : ∀ (w : Int) (jj : Nat), z.parts[jj]? = some w → jj < 2 → Tl (kids S) (rootF S w.toNat) ((n : Int) + 1, gSize n) := fun w jj hw hjj => by
        have ht : z.t.ps[jj]? = some (vT (q + 1)) := by
          rw [e]
          match jj, hjj with
          | 0, _ => rfl
          | 1, _ => rfl
        obtain ⟨_, _, h9⟩ := f8 jj w _ hw ht
        obtain ⟨r, hr, er⟩ := Option.map_eq_some_iff.1 h9
        exact ih w.toNat r hr (by rw [er, show n = k - (q + 1) from by omega]; exact .var _ (by omega))
      have ha := at' a 0 (by rw [hab]; rfl) (by omega)
      have hb := at' b 1 (by rw [hab]; rfl) (by omega)
      rw [hab] at hkid
      have := Tl.mk (K := kids S) (rootF S j) (fun _ => ((n : Int) + 1, gSize n)) (fun v hv => by
        rw [hkid] at hv
        simp only [List.map_cons, List.map_nil, List.mem_cons, List.not_mem_nil, or_false] at hv
        rcases hv with rfl | rfl
        · exact ha
        · exact hb)
      rw [hkid] at this
      have hp := gSize_pos n
      have ev : tell (fun _ => ((n : Int) + 1, gSize n)) (([a, b].map Int.toNat).map (rootF S)) = (((n + 1 : Nat) : Int) + 1, gSize (n + 1)) := by
        simp only [tell, List.map_cons, List.map_nil, List.foldl_cons, List.foldl_nil, gSize, most] at *
        refine Prod.ext ?_ ?_
        · simp only; omega
        · simp only; omega
      rw [ev] at this
      exact this
theorem gF_noloop (k : Nat) (hk : k ≤ 1000) {M : List RNode} {c : List Int} {S : CS} (h : PSt (gF k) M c S) (y : Nat) : ¬ Pls (kids S) y y := fun hp => by
  have hr := hp.root
  have hy : y < M.length := by rw [← h.nl]; exact hr.lt
  obtain ⟨z, hz⟩ : ∃ z, M[y]? = some z := ⟨_, List.getElem?_eq_getElem hy⟩
  obtain ⟨n, hn⟩ := gF_types k hk z (by
    have h1 := List.mem_of_getElem? hz
    rw [h.m] at h1
    exact h1)
  have := gF_tl k hk h n y z hz hn
  rw [rootF_eq hr] at this
  exact this.noloop hp
theorem gF_var0 (k : Nat) (hk : k ≤ 1000) {M : List RNode} {c : List Int} {S : CS} (h : PSt (gF k) M c S) : ∃ i : Nat, vfind S.G.V 0 = some (i : Int) ∧ i < M.length ∧ Tl (kids S) (rootF S i) ((k : Int) + 1, gSize k) := by
  obtain ⟨t, ht⟩ : ∃ t, (vT 0, t) ∈ gF k := by
    rcases Nat.eq_zero_or_pos k with rfl | hk0
    · exact ⟨iT, by simp [gF]⟩
    · exact ⟨dT 0, List.mem_append.2 (.inl (List.mem_map.2 ⟨0, by simpa using hk0, rfl⟩))⟩
  obtain ⟨a, b, ha, _, _⟩ := eqF_tgt _ (gF_ok k hk) _ ht
  rw [← h.m] at ha
  obtain ⟨x, hx, ex⟩ := Option.map_eq_some_iff.1 ha
  have hv := h.var_node hx (by rw [ex]; rfl)
  refine ⟨a, ?_, (List.getElem?_eq_some_iff.1 hx).1, ?_⟩
  · have h1 := hv.2
    rw [ex] at h1; exact h1
  · have h2 := gF_tl k hk h (k - 0) a x hx (by rw [ex]; exact .var 0 (Nat.zero_le _))
    rw [Nat.sub_zero] at h2; exact h2
theorem gF_told (k : Nat) (hk : k ≤ 1000) {M : List RNode} {c : List Int} {S : CS} (h : PSt (gF k) M c S) {i : Nat} (hi : Tl (kids S) (rootF S i) ((k : Int) + 1, gSize k)) (f : Int × Int → Int) {s : Int × Bool} (hs : (s = (0, false) ∧ ∃ y, y < S.F.up.length ∧ Pls (kids S) y y) ∨ ∃ (q : Nat) (a : Int × Int), Rt S.F.up (i : Int).toNat q ∧ Tl (kids S) q a ∧ s = (f a, true)) : s = (f ((k : Int) + 1, gSize k), true) := by
  rcases hs with ⟨_, y, _, hy⟩ | ⟨q, a, hq, ha, rfl⟩
  · exact absurd hy (gF_noloop k hk h y)
  · rw [Int.toNat_natCast] at hq
    rw [rootF_eq hq] at hi
    rw [ha.det hi]
theorem gF_fin (k : Nat) (hk : k ≤ 1000) {M : List RNode} {c : List Int} {S : CS} (h : PSt (gF k) M c S) {b : Bool} {n : Int} (hr : CountR S (b, n)) : b = true := by
  rcases hr with ⟨h1, _⟩ | ⟨_, h2, _⟩
  · rw [h.h.1] at h1; cases h1
  · cases b with
    | true => rfl
    | false =>
      obtain ⟨y, _, hp⟩ := h2 rfl
      exact absurd hp (gF_noloop k hk h y)
end Go.Proofs.Ytjjjckjebkmnjaa
namespace Go.Proofs.Ytjjjckjebkmnjaa
open Go Go.RowKit
set_option maxRecDepth 100000
set_option maxHeartbeats 4000000
set_option linter.unusedSimpArgs false
set_option linter.unusedVariables false
attribute [local irreducible] aops dRun
theorem dep1_at {s : Int} {b : Bool} {os : Os} {nx : Nat} (h : getO os 12 = some (.cells 108 [.map 8, .map 9, .map 10, .map 11, .v (.int .i64 s), .v (.bool b)])) {Q : AV → Os → Nat → Prop} (hq : Q (.map 10) os nx) : ACalls Try.prog 71 [.ptr 12 0] os nx Q := by
  refine ACalls_intro Try.func71 (by kernel_rfl) rfl (by rw [Try.ntmps71]; simp) (fun hm => ?_)
  simp only [Try.ntmps71, Try.results71, List.length_cons, List.length_nil, Nat.reduceAdd, Nat.reduceSub, List.replicate_succ, List.replicate_zero, List.cons_append, List.nil_append]
  refine AWp_seqK fun Y0 y0 => ?_
  refine AWp_region ?_
  simp only [↓bO, go_sem, seval, h]
  refine y0 _ ?_
  try clear y0 Y0
  refine AWp_seqK fun Y0 y0 => ?_
  refine AWp_region ?_
  refine aops_chunk 4 fun Q0 q0 => ?_
  simp only [↓bO, go_sem, seval, h]
  refine q0 _ ?_
  clear q0 Q0
  simp only [go_sem]
  simp only [↓bO, go_sem, seval, h]
  refine y0 _ ?_
  try clear y0 Y0
  refine AWp_ret ?_
  try simp only [thenQ, blockQ, noGotoQ, retQ, aRes, tupOf, bS, bA]
  exact hq
theorem siz1_at {s : Int} {b : Bool} {os : Os} {nx : Nat} (h : getO os 12 = some (.cells 108 [.map 8, .map 9, .map 10, .map 11, .v (.int .i64 s), .v (.bool b)])) {Q : AV → Os → Nat → Prop} (hq : Q (.map 11) os nx) : ACalls Try.prog 72 [.ptr 12 0] os nx Q := by
  refine ACalls_intro Try.func72 (by kernel_rfl) rfl (by rw [Try.ntmps72]; simp) (fun hm => ?_)
  simp only [Try.ntmps72, Try.results72, List.length_cons, List.length_nil, Nat.reduceAdd, Nat.reduceSub, List.replicate_succ, List.replicate_zero, List.cons_append, List.nil_append]
  refine AWp_seqK fun Y0 y0 => ?_
  refine AWp_region ?_
  simp only [↓bO, go_sem, seval, h]
  refine y0 _ ?_
  try clear y0 Y0
  refine AWp_seqK fun Y0 y0 => ?_
  refine AWp_region ?_
  refine aops_chunk 4 fun Q0 q0 => ?_
  simp only [↓bO, go_sem, seval, h]
  refine q0 _ ?_
  clear q0 Q0
  simp only [go_sem]
  simp only [↓bO, go_sem, seval, h]
  refine y0 _ ?_
  try clear y0 Y0
  refine AWp_ret ?_
  try simp only [thenQ, blockQ, noGotoQ, retQ, aRes, tupOf, bS, bA]
  exact hq
theorem toldD_c (S : CS) (hS : CyG S) (hc : S.clash = false) (v i : Int) (hvi : vfind S.G.V v = some i) : CCalls (σ := Int × Bool) 70 [.ptr 0 0, .v (.int .i64 v), .clo 71 []] (S) (fun s => s.1 = { S with F := s.1.F } ∧ FSame S.F s.1.F ∧ ((s.2 = (0, false) ∧ ∃ y, y < S.F.up.length ∧ Pls (kids S) y y) ∨ ∃ (q : Nat) (a : Int × Int), Rt S.F.up i.toNat q ∧ Tl (kids S) q a ∧ s.2 = (a.1, true))) (fun s => .tup [.v (.int .i64 s.1), .v (.bool s.2)]) := by
  refine ACalls.clean (C := fun r os => ∃ s : CS × Int × Bool, (s.1 = { S with F := s.1.F } ∧ FSame S.F s.1.F ∧ ((s.2 = (0, false) ∧ ∃ y, y < S.F.up.length ∧ Pls (kids S) y y) ∨ ∃ (q : Nat) (a : Int × Int), Rt S.F.up i.toNat q ∧ Tl (kids S) q a ∧ s.2 = (a.1, true))) ∧ r = (fun s : Int × Bool => .tup [.v (.int .i64 s.1), .v (.bool s.2)]) s.2 ∧ os = enumO 0 (cObs s.1)) ?_
  refine ACalls_intro Try.func70 (by kernel_rfl) rfl (by rw [Try.ntmps70]; simp) (fun hm => ?_)
  simp only [Try.ntmps70, Try.results70, List.length_cons, List.length_nil, Nat.reduceAdd, Nat.reduceSub, List.replicate_succ, List.replicate_zero, List.cons_append, List.nil_append]
  simp only [cObs, enumO, Nat.reduceAdd]
  refine AWp_seqK fun Y0 y0 => ?_
  refine AWp_region ?_
  refine aops_chunk 1 fun Q0 q0 => ?_
  simp only [↓bO, go_sem, seval, look_I, look_B, upd_I, upd_B]
  refine q0 _ ?_
  clear q0 Q0
  simp only [go_sem]
  simp only [↓bO, go_sem, seval, look_I, look_B, upd_I, upd_B]
  refine y0 _ ?_
  try clear y0 Y0
  refine AWp_seqK fun Y0 y0 => ?_
  refine AWp_region ?_
  refine aops_chunk 1 fun Q0 q0 => ?_
  simp only [↓bO, go_sem, seval, look_I, look_B, upd_I, upd_B]
  refine q0 _ ?_
  clear q0 Q0
  simp only [go_sem]
  refine aops_chunk 1 fun Q0 q0 => ?_
  simp only [↓bO, go_sem, seval, look_I, look_B, upd_I, upd_B]
  refine ACalls.mono (show ACalls Try.prog 73 _ (enumO 0 (cObs S)) 8 _ from all_c S (fun _ => hS)) ?_
  rintro z os' nx' ⟨⟨⟨⟨F1, W1⟩, fo1⟩, hA, rfl, rfl⟩, rfl⟩
  dsimp only
  simp only [aOs, cObs, enumO, Nat.reduceAdd]
  obtain ⟨hFA, hWA, hVA⟩ : FSame S.F F1 ∧ WK S W1 fo1 ∧ ∀ (v i : Int) (q : Nat), vfind S.G.V v = some i → Rt S.F.up i.toNat q → q ∈ fo1 := by (rcases hA with ⟨h9, _⟩ | ⟨_, h1, h2, h3⟩; (rw [hc] at h9; cases h9); exact ⟨h1, h2, h3⟩)
  try simp only [bS, bA, thenQ, blockQ, noGotoQ]
  refine q0 _ ?_
  clear q0 Q0
  simp only [go_sem]
  simp only [↓bO, go_sem, seval, look_I, look_B, upd_I, upd_B]
  refine y0 _ ?_
  try clear y0 Y0
  refine AWp_seqK fun Y0 y0 => ?_
  refine AWp_region ?_
  iterate 2 (refine aops_chunk 1 fun Q0 q0 => ?_; simp only [↓bO, go_sem, seval, look_I, look_B, upd_I, upd_B]; refine q0 _ ?_; clear q0 Q0; simp only [go_sem])
  refine aops_chunk 1 fun Q0 q0 => ?_
  simp only [↓bO, go_sem, seval, look_I, look_B, upd_I, upd_B]
  refine CCalls.atP (R' := fun s => .tup [.agg (partC 0 s), .v (.bool true)]) (CPart_c { S with F := F1 } hFA.inv (fun n k h => by have := hS.vin n k h; dsimp only; rw [hFA.len]; exact this) hc v i hvi) (i0 := 0) (i1 := 1) (i2 := 2) (i3 := 3) (i4 := 4) (i5 := 5) (i6 := 6) (i7 := 7) (by exact ⟨.ptr rfl, .v _, trivial⟩) (fun _ => by exact .tup ⟨.part rfl _, .v _, trivial⟩) (by decide) (by simp) ⟨rfl, rfl, rfl, rfl, rfl, rfl, rfl, rfl, trivial⟩ (fun Z1 r1 hX1 => ?_)
  try dsimp only at hX1
  simp only [cObsAt, List.zip_cons_cons, List.zip_nil_left, List.zip_nil_right, putsO, putO, Nat.reduceEqDiff, ↓reduceIte]
  obtain ⟨F2, rfl⟩ : ∃ F, Z1 = { S with F := F } := ⟨Z1.F, hX1.2.1⟩
  dsimp only at hX1
  have hF2 : FSame S.F F2 := hFA.trans hX1.1
  have hrt := (hFA.rt _ _).1 hX1.2.2
  try simp only [bS, bA, thenQ, blockQ, noGotoQ]
  iterate 5 (refine q0 _ ?_; clear q0 Q0; simp only [go_sem]; refine aops_chunk 1 fun Q0 q0 => ?_; simp only [↓bO, go_sem, seval, look_I, look_B, upd_I, upd_B, partC])
  refine q0 _ ?_
  clear q0 Q0
  simp only [go_sem]
  simp only [↓bO, go_sem, seval, look_I, look_B, upd_I, upd_B, partC]
  refine y0 _ ?_
  try clear y0 Y0
  refine AWp_seqK fun Y0 y0 => ?_
  refine AWp_seqK fun Y1 y1 => ?_
  refine AWp_region ?_
  iterate 3 (refine aops_chunk 1 fun Q0 q0 => ?_; simp only [↓bO, go_sem, seval, look_I, look_B, upd_I, upd_B, partC]; refine q0 _ ?_; clear q0 Q0; simp only [go_sem])
  refine aops_case 21 rfl (fun hc21 => ?_) (fun hc21 => ?_)
  ·
   simp only [List.set_cons_zero, List.set_cons_succ]
   exact absurd hc21 (by simp)
  ·
   simp only [List.set_cons_zero, List.set_cons_succ]
   iterate 4 (refine aops_chunk 1 fun Q0 q0 => ?_; simp only [↓bO, go_sem, seval, look_I, look_B, upd_I, upd_B, partC]; refine q0 _ ?_; clear q0 Q0; simp only [go_sem])
   simp only [↓bO, go_sem, seval, look_I, look_B, upd_I, upd_B, partC]
   refine y1 _ ?_
   try clear y1 Y1
   refine AWp_cond rfl (fun hb26 => ?_) (fun hb26 => ?_)
   ·
    have hbad : W1.bad = true := by simpa using hb26
    refine AWp_seqK fun Y1 y1 => ?_
    refine AWp_region ?_
    refine aops_chunk 1 fun Q0 q0 => ?_
    simp only [↓bO, go_sem, seval, look_I, look_B, upd_I, upd_B, partC]
    refine q0 _ ?_
    clear q0 Q0
    simp only [go_sem]
    simp only [↓bO, go_sem, seval, look_I, look_B, upd_I, upd_B, partC]
    refine y1 _ ?_
    try clear y1 Y1
    refine AWp_ret ?_
    try simp only [thenQ, blockQ, noGotoQ, retQ, aRes, tupOf, bS, bA]
    refine ⟨_, enumO 0 (cObs ({ S with F := F2 })), ⟨({ S with F := F2 }, (0, false)), ?_, rfl, rfl⟩, .tup ⟨.v _ _, .v _ _, trivial⟩, cUnd (by omega) _, ?_, ?_, by omega⟩
    · exact ⟨rfl, hF2, .inl ⟨rfl, (by obtain ⟨y, hy, hp⟩ := hWA.d.bad_iff.1 hbad; exact ⟨y, hWA.d.lt y (by simpa using hy), hp⟩)⟩⟩
    ·
     exact Le.refl _
    · first | (refine ⟨6, rfl, rfl⟩) | (refine ⟨5, rfl, rfl⟩) | (refine ⟨7, rfl, rfl⟩) | (refine ⟨6, by simp only [cObs, enumO, List.drop_zero, List.drop_succ_cons, Nat.reduceAdd], rfl⟩) | (refine ⟨5, by simp only [cObs, enumO, List.drop_zero, List.drop_succ_cons, Nat.reduceAdd], rfl⟩) | (refine ⟨7, by simp only [cObs, enumO, List.drop_zero, List.drop_succ_cons, Nat.reduceAdd], rfl⟩)
   ·
    have hbad : W1.bad = false := by simpa using hb26
    refine AWp_skip ?_
    try simp only [thenQ, blockQ, noGotoQ]
    refine y0 _ ?_
    try clear y0 Y0
    refine AWp_seqK fun Y0 y0 => ?_
    refine AAny_start [(13, 0, [.ptr 0 0, .v (.int .i64 (r1 : Int))])] 8 rfl mixed (⟨⟨_, _, rfl, by simp, rfl, trivial, trivial, trivial⟩, trivial⟩) rfl ?_
    dsimp only
    refine AAny_takeK 0 rfl (by kernel_rfl) (by kernel_rfl) (by kernel_rfl) (fun _ _ h => h) fun Q0 q0 => ?_
    simp only [↓bO, go_sem, seval, look_I, look_B, upd_I, upd_B, partC]
    refine q0 _ ?_
    clear q0 Q0
    refine AAny_takeK 1 rfl (by kernel_rfl) (by kernel_rfl) (by kernel_rfl) (fun _ _ h => h) fun Q0 q0 => ?_
    simp only [↓bO, go_sem, seval, look_I, look_B, upd_I, upd_B, partC]
    refine q0 _ ?_
    clear q0 Q0
    refine AAny_loadK 3 0 rfl rfl (by kernel_rfl) (by kernel_rfl) (by kernel_rfl) (fun _ _ h => h) fun Q0 q0 => ?_
    simp only [↓bO, go_sem, seval, look_I, look_B, upd_I, upd_B, partC]
    refine q0 _ ?_
    clear q0 Q0
    refine AAny_all1 (i := 2) (by kernel_rfl) ?_
    ·
     refine aAt_op rfl rfl fun Q0 q0 => ?_
     simp only [↓bO, go_sem, seval, look_I, look_B, upd_I, upd_B, partC]
     refine dep1_at (s := W1.steps) (b := W1.bad) ?_ ?_
     · rfl
     try simp only [bS, bA]
     refine q0 _ ⟨⟨⟨_, _, rfl, by simp, rfl, trivial, trivial, trivial⟩, trivial⟩, ?_⟩
     clear q0 Q0
     refine AAny_all1 (i := 4) (by kernel_rfl) ?_
     ·
      refine aAt_op rfl rfl fun Q0 q0 => ?_
      simp only [↓bO, go_sem, seval, look_I, look_B, upd_I, upd_B, partC]
      refine CCalls.atP (PId_c ({ S with F := F2 }) (r1 : Int)) (i0 := 0) (i1 := 1) (i2 := 2) (i3 := 3) (i4 := 4) (i5 := 5) (i6 := 6) (i7 := 7) (by exact ⟨.agg ⟨.ptr rfl, .v _, trivial⟩, trivial⟩) (fun _ => by exact .v _) (by decide) (by simp) ⟨rfl, rfl, rfl, rfl, rfl, rfl, rfl, rfl, trivial⟩ (fun Z31 u31 hZ31 => ?_)
      try dsimp only at hZ31
      simp only [cObsAt, List.zip_cons_cons, List.zip_nil_left, List.zip_nil_right, putsO, putO, Nat.reduceEqDiff, ↓reduceIte]
      obtain rfl : { S with F := F2 } = Z31 := hZ31.symm
      try simp only [bS, bA]
      refine q0 _ ⟨⟨⟨_, _, rfl, by simp, rfl, trivial, trivial, trivial⟩, trivial⟩, ?_⟩
      clear q0 Q0
      refine AAny_all1 (i := 5) (by kernel_rfl) ?_
      ·
       refine aAt_op rfl rfl fun Q0 q0 => ?_
       simp only [↓bO, go_sem, seval, look_I, look_B, upd_I, upd_B, partC]
       refine q0 _ ⟨⟨⟨_, _, rfl, by simp, rfl, trivial, trivial, trivial⟩, trivial⟩, ?_⟩
       clear q0 Q0
       refine AAny_takeK 6 rfl (by kernel_rfl) (by kernel_rfl) (by kernel_rfl) (fun _ _ h => h) fun Q0 q0 => ?_
       simp only [↓bO, go_sem, seval, look_I, look_B, upd_I, upd_B, partC]
       refine q0 _ ?_
       clear q0 Q0
       refine AAny_takeK 7 rfl (by kernel_rfl) (by kernel_rfl) (by kernel_rfl) (fun _ _ h => h) fun Q0 q0 => ?_
       simp only [↓bO, go_sem, seval, look_I, look_B, upd_I, upd_B, partC]
       refine q0 _ ?_
       clear q0 Q0
       refine AAny_done (by kernel_rfl) ?_
       simp only [thenQ, blockQ, noGotoQ]
       refine y0 _ ?_
       try clear y0 Y0
       refine AWp_ret ?_
       try simp only [thenQ, blockQ, noGotoQ, retQ, aRes, tupOf, bS, bA]
       refine ⟨_, enumO 0 (cObs ({ S with F := F2 })), ⟨({ S with F := F2 }, (W1.dg r1, true)), ?_, rfl, rfl⟩, .tup ⟨.v _ _, .v _ _, trivial⟩, cUnd (by omega) _, ?_, ?_, by omega⟩
       · exact ⟨rfl, hF2, .inr ⟨r1, _, hrt, hWA.d.told hbad (hVA v i r1 hvi hrt), rfl⟩⟩
       ·
        exact Le.refl _
       · first | (refine ⟨6, rfl, rfl⟩) | (refine ⟨5, rfl, rfl⟩) | (refine ⟨7, rfl, rfl⟩) | (refine ⟨6, by simp only [cObs, enumO, List.drop_zero, List.drop_succ_cons, Nat.reduceAdd], rfl⟩) | (refine ⟨5, by simp only [cObs, enumO, List.drop_zero, List.drop_succ_cons, Nat.reduceAdd], rfl⟩) | (refine ⟨7, by simp only [cObs, enumO, List.drop_zero, List.drop_succ_cons, Nat.reduceAdd], rfl⟩)
theorem toldS_c (S : CS) (hS : CyG S) (hc : S.clash = false) (v i : Int) (hvi : vfind S.G.V v = some i) : CCalls (σ := Int × Bool) 70 [.ptr 0 0, .v (.int .i64 v), .clo 72 []] (S) (fun s => s.1 = { S with F := s.1.F } ∧ FSame S.F s.1.F ∧ ((s.2 = (0, false) ∧ ∃ y, y < S.F.up.length ∧ Pls (kids S) y y) ∨ ∃ (q : Nat) (a : Int × Int), Rt S.F.up i.toNat q ∧ Tl (kids S) q a ∧ s.2 = (a.2, true))) (fun s => .tup [.v (.int .i64 s.1), .v (.bool s.2)]) := by
  refine ACalls.clean (C := fun r os => ∃ s : CS × Int × Bool, (s.1 = { S with F := s.1.F } ∧ FSame S.F s.1.F ∧ ((s.2 = (0, false) ∧ ∃ y, y < S.F.up.length ∧ Pls (kids S) y y) ∨ ∃ (q : Nat) (a : Int × Int), Rt S.F.up i.toNat q ∧ Tl (kids S) q a ∧ s.2 = (a.2, true))) ∧ r = (fun s : Int × Bool => .tup [.v (.int .i64 s.1), .v (.bool s.2)]) s.2 ∧ os = enumO 0 (cObs s.1)) ?_
  refine ACalls_intro Try.func70 (by kernel_rfl) rfl (by rw [Try.ntmps70]; simp) (fun hm => ?_)
  simp only [Try.ntmps70, Try.results70, List.length_cons, List.length_nil, Nat.reduceAdd, Nat.reduceSub, List.replicate_succ, List.replicate_zero, List.cons_append, List.nil_append]
  simp only [cObs, enumO, Nat.reduceAdd]
  refine AWp_seqK fun Y0 y0 => ?_
  refine AWp_region ?_
  refine aops_chunk 1 fun Q0 q0 => ?_
  simp only [↓bO, go_sem, seval, look_I, look_B, upd_I, upd_B]
  refine q0 _ ?_
  clear q0 Q0
  simp only [go_sem]
  simp only [↓bO, go_sem, seval, look_I, look_B, upd_I, upd_B]
  refine y0 _ ?_
  try clear y0 Y0
  refine AWp_seqK fun Y0 y0 => ?_
  refine AWp_region ?_
  refine aops_chunk 1 fun Q0 q0 => ?_
  simp only [↓bO, go_sem, seval, look_I, look_B, upd_I, upd_B]
  refine q0 _ ?_
  clear q0 Q0
  simp only [go_sem]
  refine aops_chunk 1 fun Q0 q0 => ?_
  simp only [↓bO, go_sem, seval, look_I, look_B, upd_I, upd_B]
  refine ACalls.mono (show ACalls Try.prog 73 _ (enumO 0 (cObs S)) 8 _ from all_c S (fun _ => hS)) ?_
  rintro z os' nx' ⟨⟨⟨⟨F1, W1⟩, fo1⟩, hA, rfl, rfl⟩, rfl⟩
  dsimp only
  simp only [aOs, cObs, enumO, Nat.reduceAdd]
  obtain ⟨hFA, hWA, hVA⟩ : FSame S.F F1 ∧ WK S W1 fo1 ∧ ∀ (v i : Int) (q : Nat), vfind S.G.V v = some i → Rt S.F.up i.toNat q → q ∈ fo1 := by (rcases hA with ⟨h9, _⟩ | ⟨_, h1, h2, h3⟩; (rw [hc] at h9; cases h9); exact ⟨h1, h2, h3⟩)
  try simp only [bS, bA, thenQ, blockQ, noGotoQ]
  refine q0 _ ?_
  clear q0 Q0
  simp only [go_sem]
  simp only [↓bO, go_sem, seval, look_I, look_B, upd_I, upd_B]
  refine y0 _ ?_
  try clear y0 Y0
  refine AWp_seqK fun Y0 y0 => ?_
  refine AWp_region ?_
  iterate 2 (refine aops_chunk 1 fun Q0 q0 => ?_; simp only [↓bO, go_sem, seval, look_I, look_B, upd_I, upd_B]; refine q0 _ ?_; clear q0 Q0; simp only [go_sem])
  refine aops_chunk 1 fun Q0 q0 => ?_
  simp only [↓bO, go_sem, seval, look_I, look_B, upd_I, upd_B]
  refine CCalls.atP (R' := fun s => .tup [.agg (partC 0 s), .v (.bool true)]) (CPart_c { S with F := F1 } hFA.inv (fun n k h => by have := hS.vin n k h; dsimp only; rw [hFA.len]; exact this) hc v i hvi) (i0 := 0) (i1 := 1) (i2 := 2) (i3 := 3) (i4 := 4) (i5 := 5) (i6 := 6) (i7 := 7) (by exact ⟨.ptr rfl, .v _, trivial⟩) (fun _ => by exact .tup ⟨.part rfl _, .v _, trivial⟩) (by decide) (by simp) ⟨rfl, rfl, rfl, rfl, rfl, rfl, rfl, rfl, trivial⟩ (fun Z1 r1 hX1 => ?_)
  try dsimp only at hX1
  simp only [cObsAt, List.zip_cons_cons, List.zip_nil_left, List.zip_nil_right, putsO, putO, Nat.reduceEqDiff, ↓reduceIte]
  obtain ⟨F2, rfl⟩ : ∃ F, Z1 = { S with F := F } := ⟨Z1.F, hX1.2.1⟩
  dsimp only at hX1
  have hF2 : FSame S.F F2 := hFA.trans hX1.1
  have hrt := (hFA.rt _ _).1 hX1.2.2
  try simp only [bS, bA, thenQ, blockQ, noGotoQ]
  iterate 5 (refine q0 _ ?_; clear q0 Q0; simp only [go_sem]; refine aops_chunk 1 fun Q0 q0 => ?_; simp only [↓bO, go_sem, seval, look_I, look_B, upd_I, upd_B, partC])
  refine q0 _ ?_
  clear q0 Q0
  simp only [go_sem]
  simp only [↓bO, go_sem, seval, look_I, look_B, upd_I, upd_B, partC]
  refine y0 _ ?_
  try clear y0 Y0
  refine AWp_seqK fun Y0 y0 => ?_
  refine AWp_seqK fun Y1 y1 => ?_
  refine AWp_region ?_
  iterate 3 (refine aops_chunk 1 fun Q0 q0 => ?_; simp only [↓bO, go_sem, seval, look_I, look_B, upd_I, upd_B, partC]; refine q0 _ ?_; clear q0 Q0; simp only [go_sem])
  refine aops_case 21 rfl (fun hc21 => ?_) (fun hc21 => ?_)
  ·
   simp only [List.set_cons_zero, List.set_cons_succ]
   exact absurd hc21 (by simp)
  ·
   simp only [List.set_cons_zero, List.set_cons_succ]
   iterate 4 (refine aops_chunk 1 fun Q0 q0 => ?_; simp only [↓bO, go_sem, seval, look_I, look_B, upd_I, upd_B, partC]; refine q0 _ ?_; clear q0 Q0; simp only [go_sem])
   simp only [↓bO, go_sem, seval, look_I, look_B, upd_I, upd_B, partC]
   refine y1 _ ?_
   try clear y1 Y1
   refine AWp_cond rfl (fun hb26 => ?_) (fun hb26 => ?_)
   ·
    have hbad : W1.bad = true := by simpa using hb26
    refine AWp_seqK fun Y1 y1 => ?_
    refine AWp_region ?_
    refine aops_chunk 1 fun Q0 q0 => ?_
    simp only [↓bO, go_sem, seval, look_I, look_B, upd_I, upd_B, partC]
    refine q0 _ ?_
    clear q0 Q0
    simp only [go_sem]
    simp only [↓bO, go_sem, seval, look_I, look_B, upd_I, upd_B, partC]
    refine y1 _ ?_
    try clear y1 Y1
    refine AWp_ret ?_
    try simp only [thenQ, blockQ, noGotoQ, retQ, aRes, tupOf, bS, bA]
    refine ⟨_, enumO 0 (cObs ({ S with F := F2 })), ⟨({ S with F := F2 }, (0, false)), ?_, rfl, rfl⟩, .tup ⟨.v _ _, .v _ _, trivial⟩, cUnd (by omega) _, ?_, ?_, by omega⟩
    · exact ⟨rfl, hF2, .inl ⟨rfl, (by obtain ⟨y, hy, hp⟩ := hWA.d.bad_iff.1 hbad; exact ⟨y, hWA.d.lt y (by simpa using hy), hp⟩)⟩⟩
    ·
     exact Le.refl _
    · first | (refine ⟨6, rfl, rfl⟩) | (refine ⟨5, rfl, rfl⟩) | (refine ⟨7, rfl, rfl⟩) | (refine ⟨6, by simp only [cObs, enumO, List.drop_zero, List.drop_succ_cons, Nat.reduceAdd], rfl⟩) | (refine ⟨5, by simp only [cObs, enumO, List.drop_zero, List.drop_succ_cons, Nat.reduceAdd], rfl⟩) | (refine ⟨7, by simp only [cObs, enumO, List.drop_zero, List.drop_succ_cons, Nat.reduceAdd], rfl⟩)
   ·
    have hbad : W1.bad = false := by simpa using hb26
    refine AWp_skip ?_
    try simp only [thenQ, blockQ, noGotoQ]
    refine y0 _ ?_
    try clear y0 Y0
    refine AWp_seqK fun Y0 y0 => ?_
    refine AAny_start [(13, 0, [.ptr 0 0, .v (.int .i64 (r1 : Int))])] 8 rfl mixed (⟨⟨_, _, rfl, by simp, rfl, trivial, trivial, trivial⟩, trivial⟩) rfl ?_
    dsimp only
    refine AAny_takeK 0 rfl (by kernel_rfl) (by kernel_rfl) (by kernel_rfl) (fun _ _ h => h) fun Q0 q0 => ?_
    simp only [↓bO, go_sem, seval, look_I, look_B, upd_I, upd_B, partC]
    refine q0 _ ?_
    clear q0 Q0
    refine AAny_takeK 1 rfl (by kernel_rfl) (by kernel_rfl) (by kernel_rfl) (fun _ _ h => h) fun Q0 q0 => ?_
    simp only [↓bO, go_sem, seval, look_I, look_B, upd_I, upd_B, partC]
    refine q0 _ ?_
    clear q0 Q0
    refine AAny_loadK 3 0 rfl rfl (by kernel_rfl) (by kernel_rfl) (by kernel_rfl) (fun _ _ h => h) fun Q0 q0 => ?_
    simp only [↓bO, go_sem, seval, look_I, look_B, upd_I, upd_B, partC]
    refine q0 _ ?_
    clear q0 Q0
    refine AAny_all1 (i := 2) (by kernel_rfl) ?_
    ·
     refine aAt_op rfl rfl fun Q0 q0 => ?_
     simp only [↓bO, go_sem, seval, look_I, look_B, upd_I, upd_B, partC]
     refine siz1_at (s := W1.steps) (b := W1.bad) ?_ ?_
     · rfl
     try simp only [bS, bA]
     refine q0 _ ⟨⟨⟨_, _, rfl, by simp, rfl, trivial, trivial, trivial⟩, trivial⟩, ?_⟩
     clear q0 Q0
     refine AAny_all1 (i := 4) (by kernel_rfl) ?_
     ·
      refine aAt_op rfl rfl fun Q0 q0 => ?_
      simp only [↓bO, go_sem, seval, look_I, look_B, upd_I, upd_B, partC]
      refine CCalls.atP (PId_c ({ S with F := F2 }) (r1 : Int)) (i0 := 0) (i1 := 1) (i2 := 2) (i3 := 3) (i4 := 4) (i5 := 5) (i6 := 6) (i7 := 7) (by exact ⟨.agg ⟨.ptr rfl, .v _, trivial⟩, trivial⟩) (fun _ => by exact .v _) (by decide) (by simp) ⟨rfl, rfl, rfl, rfl, rfl, rfl, rfl, rfl, trivial⟩ (fun Z31 u31 hZ31 => ?_)
      try dsimp only at hZ31
      simp only [cObsAt, List.zip_cons_cons, List.zip_nil_left, List.zip_nil_right, putsO, putO, Nat.reduceEqDiff, ↓reduceIte]
      obtain rfl : { S with F := F2 } = Z31 := hZ31.symm
      try simp only [bS, bA]
      refine q0 _ ⟨⟨⟨_, _, rfl, by simp, rfl, trivial, trivial, trivial⟩, trivial⟩, ?_⟩
      clear q0 Q0
      refine AAny_all1 (i := 5) (by kernel_rfl) ?_
      ·
       refine aAt_op rfl rfl fun Q0 q0 => ?_
       simp only [↓bO, go_sem, seval, look_I, look_B, upd_I, upd_B, partC]
       refine q0 _ ⟨⟨⟨_, _, rfl, by simp, rfl, trivial, trivial, trivial⟩, trivial⟩, ?_⟩
       clear q0 Q0
       refine AAny_takeK 6 rfl (by kernel_rfl) (by kernel_rfl) (by kernel_rfl) (fun _ _ h => h) fun Q0 q0 => ?_
       simp only [↓bO, go_sem, seval, look_I, look_B, upd_I, upd_B, partC]
       refine q0 _ ?_
       clear q0 Q0
       refine AAny_takeK 7 rfl (by kernel_rfl) (by kernel_rfl) (by kernel_rfl) (fun _ _ h => h) fun Q0 q0 => ?_
       simp only [↓bO, go_sem, seval, look_I, look_B, upd_I, upd_B, partC]
       refine q0 _ ?_
       clear q0 Q0
       refine AAny_done (by kernel_rfl) ?_
       simp only [thenQ, blockQ, noGotoQ]
       refine y0 _ ?_
       try clear y0 Y0
       refine AWp_ret ?_
       try simp only [thenQ, blockQ, noGotoQ, retQ, aRes, tupOf, bS, bA]
       refine ⟨_, enumO 0 (cObs ({ S with F := F2 })), ⟨({ S with F := F2 }, (W1.zg r1, true)), ?_, rfl, rfl⟩, .tup ⟨.v _ _, .v _ _, trivial⟩, cUnd (by omega) _, ?_, ?_, by omega⟩
       · exact ⟨rfl, hF2, .inr ⟨r1, _, hrt, hWA.d.told hbad (hVA v i r1 hvi hrt), rfl⟩⟩
       ·
        exact Le.refl _
       · first | (refine ⟨6, rfl, rfl⟩) | (refine ⟨5, rfl, rfl⟩) | (refine ⟨7, rfl, rfl⟩) | (refine ⟨6, by simp only [cObs, enumO, List.drop_zero, List.drop_succ_cons, Nat.reduceAdd], rfl⟩) | (refine ⟨5, by simp only [cObs, enumO, List.drop_zero, List.drop_succ_cons, Nat.reduceAdd], rfl⟩) | (refine ⟨7, by simp only [cObs, enumO, List.drop_zero, List.drop_succ_cons, Nat.reduceAdd], rfl⟩)
end Go.Proofs.Ytjjjckjebkmnjaa
namespace Go.Proofs.Ytjjjckjebkmnjaa
open Go Go.RowKit
set_option maxRecDepth 100000
set_option maxHeartbeats 4000000
set_option linter.unusedSimpArgs false
set_option linter.unusedVariables false
attribute [local irreducible] aops dRun
theorem DepthK_c (S : CS) (hS : CyG S) (hc : S.clash = false) (v i : Int) (hvi : vfind S.G.V v = some i) : CCalls (σ := Int × Bool) 45 [.ptr 0 0, .v (.int .i64 v)] (S) (fun s => s.1 = { S with F := s.1.F } ∧ FSame S.F s.1.F ∧ ((s.2 = (0, false) ∧ ∃ y, y < S.F.up.length ∧ Pls (kids S) y y) ∨ ∃ (q : Nat) (a : Int × Int), Rt S.F.up i.toNat q ∧ Tl (kids S) q a ∧ s.2 = (a.1, true))) (fun s => .tup [.v (.int .i64 s.1), .v (.bool s.2)]) := by
  refine ACalls.clean (C := fun r os => ∃ s : CS × Int × Bool, (s.1 = { S with F := s.1.F } ∧ FSame S.F s.1.F ∧ ((s.2 = (0, false) ∧ ∃ y, y < S.F.up.length ∧ Pls (kids S) y y) ∨ ∃ (q : Nat) (a : Int × Int), Rt S.F.up i.toNat q ∧ Tl (kids S) q a ∧ s.2 = (a.1, true))) ∧ r = (fun s : Int × Bool => .tup [.v (.int .i64 s.1), .v (.bool s.2)]) s.2 ∧ os = enumO 0 (cObs s.1)) ?_
  refine ACalls_intro Try.func45 (by kernel_rfl) rfl (by rw [Try.ntmps45]; simp) (fun hm => ?_)
  simp only [Try.ntmps45, Try.results45, List.length_cons, List.length_nil, Nat.reduceAdd, Nat.reduceSub, List.replicate_succ, List.replicate_zero, List.cons_append, List.nil_append]
  simp only [cObs, enumO, Nat.reduceAdd]
  refine AWp_seqK fun Y0 y0 => ?_
  refine AWp_region ?_
  refine aops_chunk 1 fun Q0 q0 => ?_
  simp only [↓bO, go_sem, seval]
  refine q0 _ ?_
  clear q0 Q0
  simp only [go_sem]
  simp only [↓bO, go_sem, seval]
  refine y0 _ ?_
  try clear y0 Y0
  refine AWp_seqK fun Y0 y0 => ?_
  refine AWp_region ?_
  iterate 2 (refine aops_chunk 1 fun Q0 q0 => ?_; simp only [↓bO, go_sem, seval]; refine q0 _ ?_; clear q0 Q0; simp only [go_sem])
  refine aops_chunk 1 fun Q0 q0 => ?_
  simp only [↓bO, go_sem, seval]
  refine CCalls.atP (R' := fun s => .tup [.v (.int .i64 s.1), .v (.bool s.2)]) (toldD_c S hS hc v i hvi) (i0 := 0) (i1 := 1) (i2 := 2) (i3 := 3) (i4 := 4) (i5 := 5) (i6 := 6) (i7 := 7) (by exact ⟨.ptr rfl, .v _, .clo trivial, trivial⟩) (fun _ => by exact .tup ⟨.v _, .v _, trivial⟩) (by decide) (by simp) ⟨rfl, rfl, rfl, rfl, rfl, rfl, rfl, rfl, trivial⟩ (fun Z1 k1 hX1 => ?_)
  try dsimp only at hX1
  simp only [cObsAt, List.zip_cons_cons, List.zip_nil_left, List.zip_nil_right, putsO, putO, Nat.reduceEqDiff, ↓reduceIte]
  obtain ⟨F1, rfl⟩ : ∃ F, Z1 = { S with F := F } := ⟨Z1.F, hX1.1⟩
  dsimp only at hX1
  try simp only [bS, bA, thenQ, blockQ, noGotoQ]
  iterate 3 (refine q0 _ ?_; clear q0 Q0; simp only [go_sem]; refine aops_chunk 1 fun Q0 q0 => ?_; simp only [↓bO, go_sem, seval])
  refine q0 _ ?_
  clear q0 Q0
  simp only [go_sem]
  simp only [↓bO, go_sem, seval]
  refine y0 _ ?_
  try clear y0 Y0
  refine AWp_ret ?_
  try simp only [thenQ, blockQ, noGotoQ, retQ, aRes, tupOf, bS, bA]
  refine ⟨_, enumO 0 (cObs ({ S with F := F1 })), ⟨({ S with F := F1 }, k1), ?_, rfl, rfl⟩, .tup ⟨.v _ _, .v _ _, trivial⟩, cUnd (by omega) _, ?_, ?_, by omega⟩
  · exact ⟨rfl, hX1.2.1, hX1.2.2⟩
  ·
   exact Le.refl _
  · first | (refine ⟨0, rfl, rfl⟩) | (refine ⟨0, by simp only [cObs, enumO, List.drop_zero, List.drop_succ_cons, Nat.reduceAdd], rfl⟩)
theorem SizeK_c (S : CS) (hS : CyG S) (hc : S.clash = false) (v i : Int) (hvi : vfind S.G.V v = some i) : CCalls (σ := Int × Bool) 46 [.ptr 0 0, .v (.int .i64 v)] (S) (fun s => s.1 = { S with F := s.1.F } ∧ FSame S.F s.1.F ∧ ((s.2 = (0, false) ∧ ∃ y, y < S.F.up.length ∧ Pls (kids S) y y) ∨ ∃ (q : Nat) (a : Int × Int), Rt S.F.up i.toNat q ∧ Tl (kids S) q a ∧ s.2 = (a.2, true))) (fun s => .tup [.v (.int .i64 s.1), .v (.bool s.2)]) := by
  refine ACalls.clean (C := fun r os => ∃ s : CS × Int × Bool, (s.1 = { S with F := s.1.F } ∧ FSame S.F s.1.F ∧ ((s.2 = (0, false) ∧ ∃ y, y < S.F.up.length ∧ Pls (kids S) y y) ∨ ∃ (q : Nat) (a : Int × Int), Rt S.F.up i.toNat q ∧ Tl (kids S) q a ∧ s.2 = (a.2, true))) ∧ r = (fun s : Int × Bool => .tup [.v (.int .i64 s.1), .v (.bool s.2)]) s.2 ∧ os = enumO 0 (cObs s.1)) ?_
  refine ACalls_intro Try.func46 (by kernel_rfl) rfl (by rw [Try.ntmps46]; simp) (fun hm => ?_)
  simp only [Try.ntmps46, Try.results46, List.length_cons, List.length_nil, Nat.reduceAdd, Nat.reduceSub, List.replicate_succ, List.replicate_zero, List.cons_append, List.nil_append]
  simp only [cObs, enumO, Nat.reduceAdd]
  refine AWp_seqK fun Y0 y0 => ?_
  refine AWp_region ?_
  refine aops_chunk 1 fun Q0 q0 => ?_
  simp only [↓bO, go_sem, seval]
  refine q0 _ ?_
  clear q0 Q0
  simp only [go_sem]
  simp only [↓bO, go_sem, seval]
  refine y0 _ ?_
  try clear y0 Y0
  refine AWp_seqK fun Y0 y0 => ?_
  refine AWp_region ?_
  iterate 2 (refine aops_chunk 1 fun Q0 q0 => ?_; simp only [↓bO, go_sem, seval]; refine q0 _ ?_; clear q0 Q0; simp only [go_sem])
  refine aops_chunk 1 fun Q0 q0 => ?_
  simp only [↓bO, go_sem, seval]
  refine CCalls.atP (R' := fun s => .tup [.v (.int .i64 s.1), .v (.bool s.2)]) (toldS_c S hS hc v i hvi) (i0 := 0) (i1 := 1) (i2 := 2) (i3 := 3) (i4 := 4) (i5 := 5) (i6 := 6) (i7 := 7) (by exact ⟨.ptr rfl, .v _, .clo trivial, trivial⟩) (fun _ => by exact .tup ⟨.v _, .v _, trivial⟩) (by decide) (by simp) ⟨rfl, rfl, rfl, rfl, rfl, rfl, rfl, rfl, trivial⟩ (fun Z1 k1 hX1 => ?_)
  try dsimp only at hX1
  simp only [cObsAt, List.zip_cons_cons, List.zip_nil_left, List.zip_nil_right, putsO, putO, Nat.reduceEqDiff, ↓reduceIte]
  obtain ⟨F1, rfl⟩ : ∃ F, Z1 = { S with F := F } := ⟨Z1.F, hX1.1⟩
  dsimp only at hX1
  try simp only [bS, bA, thenQ, blockQ, noGotoQ]
  iterate 3 (refine q0 _ ?_; clear q0 Q0; simp only [go_sem]; refine aops_chunk 1 fun Q0 q0 => ?_; simp only [↓bO, go_sem, seval])
  refine q0 _ ?_
  clear q0 Q0
  simp only [go_sem]
  simp only [↓bO, go_sem, seval]
  refine y0 _ ?_
  try clear y0 Y0
  refine AWp_ret ?_
  try simp only [thenQ, blockQ, noGotoQ, retQ, aRes, tupOf, bS, bA]
  refine ⟨_, enumO 0 (cObs ({ S with F := F1 })), ⟨({ S with F := F1 }, k1), ?_, rfl, rfl⟩, .tup ⟨.v _ _, .v _ _, trivial⟩, cUnd (by omega) _, ?_, ?_, by omega⟩
  · exact ⟨rfl, hX1.2.1, hX1.2.2⟩
  ·
   exact Le.refl _
  · first | (refine ⟨0, rfl, rfl⟩) | (refine ⟨0, by simp only [cObs, enumO, List.drop_zero, List.drop_succ_cons, Nat.reduceAdd], rfl⟩)
end Go.Proofs.Ytjjjckjebkmnjaa
