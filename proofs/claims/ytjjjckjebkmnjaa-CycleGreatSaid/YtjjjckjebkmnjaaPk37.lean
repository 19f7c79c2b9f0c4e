/- Texts of the abstract walk, of the contracts and of the plain laws, packed (part 37 of 43): Gr6 Un6 Un7 Un8 Un9. Conditions: none. -/
import Derived.Test.YtjjjckjebkmnjaaPk36
namespace Go.Proofs.Ytjjjckjebkmnjaa
open Go Go.RowKit
set_option maxRecDepth 100000
set_option maxHeartbeats 4000000
set_option linter.unusedSimpArgs false
set_option linter.unusedVariables false
attribute [local irreducible] aops dRun
theorem New_calls : ACalls Try.prog 50 [] [] 0 fun r os n => (r = .ptr 1 0 ∧ os = [(1, .cells 118 [.v (.slice none 0 0), .map 0]), (0, .map [])]) ∧ n = 2 := by
  refine ACalls.cleanN (n := 2) (C := fun r os => r = _ ∧ os = _) (by omega) ?_
  refine ACalls_intro Try.func50 (by kernel_rfl) rfl (by rw [Try.ntmps50]; simp) (fun hm => ?_)
  simp only [Try.ntmps50, Try.results50, List.length_cons, List.length_nil, Nat.reduceAdd, Nat.reduceSub, List.replicate_succ, List.replicate_zero, List.cons_append, List.nil_append]
  iterate 2 (refine AWp_seqK fun Y0 y0 => ?_; refine AWp_region ?_; simp only [↓bO, go_sem, seval]; refine y0 _ ?_; (try clear y0 Y0))
  refine AWp_ret ?_
  try simp only [thenQ, blockQ, noGotoQ, retQ, aRes, tupOf, bS, bA]
  refine ⟨_, _, ⟨rfl, rfl⟩, .ptr (by omega), ⟨by omega, ⟨.v _ _, .map (by omega), trivial⟩, by omega, (by intro p hp; cases hp), trivial⟩, Le.refl _, ⟨0, rfl, rfl⟩, by omega⟩
end Go.Proofs.Ytjjjckjebkmnjaa
namespace Go.Proofs.Ytjjjckjebkmnjaa
open Go Go.RowKit
set_option maxRecDepth 100000
set_option maxHeartbeats 4000000
set_option linter.unusedSimpArgs false
set_option linter.unusedVariables false
attribute [local irreducible] aops dRun
theorem Err_c (S : CS) : CCalls (σ := Unit) 14 [.ptr 0 0] (S) (fun s => s.1 = S) (fun s => .v (.int .i64 (if S.clash then 7 else 0))) := by
  refine ACalls.clean (C := fun r os => ∃ s : CS × Unit, (s.1 = S) ∧ r = (fun s : Unit => .v (.int .i64 (if S.clash then 7 else 0))) s.2 ∧ os = enumO 0 (cObs s.1)) ?_
  refine ACalls_intro Try.func14 (by kernel_rfl) rfl (by rw [Try.ntmps14]; simp) (fun hm => ?_)
  simp only [Try.ntmps14, Try.results14, List.length_cons, List.length_nil, Nat.reduceAdd, Nat.reduceSub, List.replicate_succ, List.replicate_zero, List.cons_append, List.nil_append]
  simp only [cObs, enumO, Nat.reduceAdd]
  refine AWp_seqK fun Y0 y0 => ?_
  refine AWp_region ?_
  simp only [↓bO, go_sem, seval]
  refine y0 _ ?_
  try clear y0 Y0
  refine AWp_seqK fun Y0 y0 => ?_
  refine AWp_block ?_
  refine AWp_seqK fun Y1 y1 => ?_
  refine AWp_region ?_
  simp only [↓bO, go_sem, seval]
  refine y1 _ ?_
  try clear y1 Y1
  refine AWp_cond rfl (fun hb3 => ?_) (fun hb3 => ?_)
  ·
   cases hb3
  ·
   refine AWp_seqK fun Y1 y1 => ?_
   refine AWp_region ?_
   refine aops_chunk 4 fun Q0 q0 => ?_
   simp only [↓bO, go_sem, seval]
   refine q0 _ ?_
   clear q0 Q0
   simp only [go_sem]
   simp only [↓bO, go_sem, seval]
   refine y1 _ ?_
   try clear y1 Y1
   refine AWp_cond rfl (fun hb6 => ?_) (fun hb6 => ?_)
   ·
    refine AWp_seqK fun Y1 y1 => ?_
    refine AWp_region ?_
    simp only [↓bO, go_sem, seval]
    refine y1 _ ?_
    try clear y1 Y1
    refine AWp_ret ?_
    try simp only [thenQ, blockQ, noGotoQ, retQ, aRes, tupOf, bS, bA]
    refine ⟨_, enumO 0 (cObs (S)), ⟨(S, ()), ?_, rfl, rfl⟩, .v _ _, cUnd (by omega) _, ?_, ?_, by omega⟩
    · rfl
    ·
     rw [show S.clash = true from hb6]; exact Le.refl _
    · first | (refine ⟨0, rfl, rfl⟩) | (refine ⟨0, by simp only [cObs, enumO, List.drop_zero, List.drop_succ_cons, Nat.reduceAdd], rfl⟩)
   ·
    refine AWp_skip ?_
    try simp only [thenQ, blockQ, noGotoQ]
    refine y0 _ ?_
    try clear y0 Y0
    refine AWp_seqK fun Y0 y0 => ?_
    refine AWp_region ?_
    simp only [↓bO, go_sem, seval]
    refine y0 _ ?_
    try clear y0 Y0
    refine AWp_ret ?_
    try simp only [thenQ, blockQ, noGotoQ, retQ, aRes, tupOf, bS, bA]
    refine ⟨_, enumO 0 (cObs (S)), ⟨(S, ()), ?_, rfl, rfl⟩, .v _ _, cUnd (by omega) _, ?_, ?_, by omega⟩
    · rfl
    ·
     rw [show S.clash = false from hb6]; exact Le.refl _
    · first | (refine ⟨0, rfl, rfl⟩) | (refine ⟨0, by simp only [cObs, enumO, List.drop_zero, List.drop_succ_cons, Nat.reduceAdd], rfl⟩)
theorem UNew_calls : ACalls Try.prog 49 [.v (.int .i64 0)] [] 0 fun r os n => (r = .tup [.ptr 0 0, .v (.int .i64 0)] ∧ os = [(0, .cells 115 [.v (.slice none 0 0), .v (.slice none 0 0), .v (.int .i64 0), .v (.int .i64 0)])]) ∧ n = 1 := by
  refine ACalls.cleanN (n := 1) (C := fun r os => r = _ ∧ os = _) (by omega) ?_
  refine ACalls_intro Try.func49 (by kernel_rfl) rfl (by rw [Try.ntmps49]; simp) (fun hm => ?_)
  simp only [Try.ntmps49, Try.results49, List.length_cons, List.length_nil, Nat.reduceAdd, Nat.reduceSub, List.replicate_succ, List.replicate_zero, List.cons_append, List.nil_append]
  refine AWp_seqK fun Y0 y0 => ?_
  refine AWp_region ?_
  simp only [↓bO, go_sem, seval]
  refine y0 _ ?_
  try clear y0 Y0
  refine AWp_seqK fun Y0 y0 => ?_
  refine AWp_seqK fun Y1 y1 => ?_
  refine AWp_region ?_
  refine aops_chunk 3 fun Q0 q0 => ?_
  simp only [↓bO, go_sem, seval]
  refine q0 _ ?_
  clear q0 Q0
  simp only [go_sem]
  refine aops_case 7 rfl (fun hc7 => ?_) (fun hc7 => ?_)
  ·
   simp only [List.set_cons_zero, List.set_cons_succ]
   cases hc7
  ·
   simp only [List.set_cons_zero, List.set_cons_succ]
   simp only [↓bO, go_sem, seval]
   refine y1 _ ?_
   try clear y1 Y1
   refine AWp_cond rfl (fun hb10 => ?_) (fun hb10 => ?_)
   ·
    cases hb10
   ·
    refine AWp_skip ?_
    try simp only [thenQ, blockQ, noGotoQ]
    refine y0 _ ?_
    try clear y0 Y0
    refine AWp_seqK fun Y0 y0 => ?_
    refine AWp_region ?_
    simp only [↓bO, go_sem, seval]
    refine y0 _ ?_
    try clear y0 Y0
    refine AWp_seqK fun Y0 y0 => ?_
    refine AWp_seqK fun Y1 y1 => ?_
    refine AWp_region ?_
    simp only [↓bO, go_sem, seval]
    refine y1 _ ?_
    try clear y1 Y1
    refine AWp_block ?_
    refine AWp_loopM (σ := Unit) (mB 20 24592) (fun s => True) (fun s => [(14, .v (.int .i64 0))]) (fun s => []) (fun s => 0) () (trivial) ?_ (fun s hs => ?_)
    ·
     simp only [maskL, setsL, putsO, putO, mB, List.set_cons_zero, List.set_cons_succ, seval]
     exact Weak.mk (by simp only [go_sem, Le.refl, Le.any, Le.slNil, Int.natCast_add, Int.cast_ofNat_Int, Int.natCast_one]) (fun _ _ h => h) rfl rfl
    simp only [maskL, setsL, putsO, putO, mB, List.set_cons_zero, List.set_cons_succ, seval]
    refine AWp_seqK fun Y1 y1 => ?_
    refine AWp_region ?_
    simp only [↓bO, go_sem, seval]
    refine y1 _ ?_
    try clear y1 Y1
    refine AWp_seqK fun Y1 y1 => ?_
    refine AWp_cond rfl (fun hb15 => ?_) (fun hb15 => ?_)
    ·
     cases hb15
    ·
     refine AWp_exit ?_
     simp only [thenQ, blockQ, noGotoQ, bA, Nat.reduceEqDiff, ↓reduceIte]
     refine y0 _ ?_
     try clear y0 Y0
     refine AWp_seqK fun Y0 y0 => ?_
     refine AWp_region ?_
     simp only [↓bO, go_sem, seval]
     refine y0 _ ?_
     try clear y0 Y0
     refine AWp_ret ?_
     try simp only [thenQ, blockQ, noGotoQ, retQ, aRes, tupOf, bS, bA]
     refine ⟨_, _, ⟨rfl, rfl⟩, .tup ⟨.ptr (by omega), .v _ _, trivial⟩, ⟨by omega, ⟨.v _ _, .v _ _, .v _ _, .v _ _, trivial⟩, trivial⟩, Le.refl _, ⟨0, rfl, rfl⟩, by omega⟩
end Go.Proofs.Ytjjjckjebkmnjaa
namespace Go.Proofs.Ytjjjckjebkmnjaa
open Go Go.RowKit
set_option maxRecDepth 100000
set_option maxHeartbeats 4000000
set_option linter.unusedSimpArgs false
set_option linter.unusedVariables false
attribute [local irreducible] aops dRun
theorem pC_rows (l : List (Int × Int)) : ∀ x ∈ l.map pC, DataL x := fun x hx => by
  obtain ⟨p, _, rfl⟩ := List.mem_map.1 hx
  exact .cons (.v _) (.cons (.v _) .nil)
theorem pC_all (l : List (Int × Int)) : ((l.map pC).all fun y => y.all AV.one) = true := by
  simp [pC, AV.one, Value.oneCell']
theorem snoc_of {α : Type} {l : List α} (h : 0 < l.length) : ∃ w p, l = w ++ [p] := by
  rcases List.eq_nil_or_concat l with e | ⟨w, p, e⟩
  · rw [e] at h; simp at h
  · exact ⟨w, p, by rw [e, List.concat_eq_append]⟩
theorem pC_app (l m : List (Int × Int)) : l.map pC ++ m.map pC = (l ++ m).map pC := by rw [List.map_append]
theorem nroots_le (up : List Nat) : nroots up ≤ up.length := by
  have h := List.countP_le_length (p := fun i => decide (up[i]? = some i)) (l := List.range up.length)
  rw [List.length_range] at h
  exact h
theorem countP_range_le (p : Nat → Bool) (a : Nat) : ∀ b, (List.range (a + b)).countP p ≤ (List.range a).countP p + b
  | 0 => Nat.le_refl _
  | b + 1 => by
    rw [← Nat.add_assoc, List.range_succ, List.countP_append]
    have h1 := countP_range_le p a b
    have h2 := List.countP_le_length (p := p) (l := [a + b])
    simp only [List.length_cons, List.length_nil] at h2
    omega
theorem nroots_lay {S : CS} {G : GS} {k : Nat} {F : FS} {W : List Int} (h : LayI S G k F W) (hf : S.F.up.length = S.W.length) : nroots F.up + S.W.length ≤ nroots S.F.up + k := by
  have hge := h.ge
  unfold nroots
  rw [h.fl, hf]
  obtain ⟨b, hb⟩ : ∃ b, k = S.W.length + b := ⟨k - S.W.length, by omega⟩
  have h1 := countP_range_le (fun i => decide (F.up[i]? = some i)) S.W.length b
  rw [← hb] at h1
  have h2 : (List.range S.W.length).countP (fun i => decide (F.up[i]? = some i)) ≤ (List.range S.W.length).countP (fun i => decide (S.F.up[i]? = some i)) := List.countP_mono_left fun i hi hp => by
    simp only [decide_eq_true_eq] at hp ⊢
    have hi2 : i < S.W.length := by simpa using hi
    rcases (h.rt i i).1 (.base hp) with h3 | ⟨h3, _⟩
    · exact h3.root
    · omega
  omega
def StepJ (S S2 : CS) : Prop := 0 ≤ S.steps → S.steps ≤ 549755813888 → S2.steps + (S.G.N.length : Int) = S.steps + (S2.G.N.length : Int) ∧ nroots S2.F.up + S.G.N.length ≤ nroots S.F.up + S2.G.N.length ∧ S.G.N.length ≤ S2.G.N.length
theorem StepJ.of {S S1 S2 : CS} (h1 : LayI S S1.G S1.G.N.length S1.F S1.W) (h2 : LayI S1 S2.G S2.G.N.length S2.F S2.W) (k1 : StepsI S S1.G.N.length S1.steps) (k2 : StepsI S1 S2.G.N.length S2.steps) (w : S.W.length = S.G.N.length) (w1 : S1.W.length = S1.G.N.length) (hf : S.F.up.length = S.W.length) (hm : S1.G.N.length ≤ 1048576) : StepJ S S2 := fun p1 p2 => by
  have g1 := h1.ge
  have g2 := h2.ge
  have a1 := k1 p1 (by omega)
  have a2 := k2 (by omega) (by omega)
  have b1 := nroots_lay h1 hf
  have b2 := nroots_lay h2 (h1.fl.trans h1.wl.symm)
  refine ⟨?_, ?_, ?_⟩ <;> omega
def StepL (S T : CS) (w : Nat) : Prop := 0 ≤ S.steps → S.steps ≤ 549755813888 → S.steps ≤ T.steps ∧ S.G.N.length ≤ T.G.N.length ∧ T.steps + 9 * (nroots T.F.up : Int) + (w : Int) + 10 * (S.G.N.length : Int) ≤ S.steps + 9 * (nroots S.F.up : Int) + 10 * (T.G.N.length : Int) + 1
theorem StepJ.start {S T : CS} (h : StepJ S T) : StepL S T 1 := fun p1 p2 => by
  obtain ⟨h1, h2, h3⟩ := h p1 p2
  refine ⟨by omega, h3, ?_⟩
  omega
theorem StepL.step {S T U : CS} {w v : Nat} (h : StepL S T w) (hn : nroots S.F.up ≤ 1048576) (ht : T.G.N.length ≤ 1048576) (hU : U.steps = IntKind.i64.wrap (T.steps + 1)) (hg : U.G = T.G) (hl : 9 * nroots U.F.up + v < 9 * nroots T.F.up + w) : StepL S U v := fun p1 p2 => by
  obtain ⟨h1, h2, h3⟩ := h p1 p2
  rw [hU, hg, wrap_in (by omega) (by omega)]
  refine ⟨by omega, h2, ?_⟩
  omega
def StepR (S T : CS) : Prop := T = S ∨ StepL S T 0
theorem StepL.last {S T : CS} {w : Nat} (h : StepL S T w) : StepR S T := .inr fun p1 p2 => by
  obtain ⟨h1, h2, h3⟩ := h p1 p2
  refine ⟨h1, h2, ?_⟩
  omega
def EqR (S : CS) (E : List (Nat × Nat)) (m : List RNode) (l u : Ty) (s : CS × Int) : Prop :=
  (S.clash = true ∧ s = (S, 7)) ∨ (S.clash = false ∧ (l.right && u.right) = false ∧ s = (S, 1)) ∨
  (S.clash = false ∧ l.right = true ∧ u.right = true ∧ s.1.G = (u.gadd (l.gadd S.G).1).1 ∧
    ((s.2 = 0 ∧ s.1.clash = false ∧ Good (E ++ [((l.radd m).2.toNat, (u.radd (l.radd m).1).2.toNat)]) (u.radd (l.radd m).1).1 s.1) ∨
     (s.2 = 7 ∧ s.1.clash = true ∧ Clash (shR (u.radd (l.radd m).1).1) (E ++ [((l.radd m).2.toNat, (u.radd (l.radd m).1).2.toNat)]))))
theorem Equate2_c (S : CS) (E : List (Nat × Nat)) (m : List RNode) (l u : Ty) (h : S.clash = false → Good E m S) (hl : S.G.N.length + l.cnt + u.cnt ≤ 1048576) (hcl : l.cnt ≤ 400) (hcr : u.cnt ≤ 400) : CCalls (σ := Int) 13 [.ptr 0 0, .agg l.cells, .agg u.cells] (S) (fun s => EqR S E m l u s ∧ StepR S s.1) (fun s => .v (.int .i64 s)) := by
  refine ACalls.clean (C := fun r os => ∃ s : CS × Int, (EqR S E m l u s ∧ StepR S s.1) ∧ r = (fun s : Int => .v (.int .i64 s)) s.2 ∧ os = enumO 0 (cObs s.1)) ?_
  refine ACalls_intro Try.func13 (by kernel_rfl) rfl (by rw [Try.ntmps13]; simp) (fun hm => ?_)
  simp only [Try.ntmps13, Try.results13, List.length_cons, List.length_nil, Nat.reduceAdd, Nat.reduceSub, List.replicate_succ, List.replicate_zero, List.cons_append, List.nil_append]
  simp only [cObs, enumO, Nat.reduceAdd]
  simp only [Ty.cells_eq l, Ty.cells_eq u, List.cons_append, List.nil_append]
  refine AWp_seqK fun Y0 y0 => ?_
  refine AWp_region ?_
  refine aops_chunk 2 fun Q0 q0 => ?_
  simp only [↓bO, go_sem, seval, aReslice, delO, List.filter_cons, List.filter_nil, Nat.reduceBEq]
  refine q0 _ ?_
  clear q0 Q0
  simp only [go_sem]
  simp only [↓bO, go_sem, seval, aReslice, delO, List.filter_cons, List.filter_nil, Nat.reduceBEq]
  refine y0 _ ?_
  try clear y0 Y0
  refine AWp_scope ?_
  refine AWp_seqK fun Y0 y0 => ?_
  refine AWp_block ?_
  refine AWp_seqK fun Y1 y1 => ?_
  refine AWp_region ?_
  refine aops_chunk 2 fun Q0 q0 => ?_
  simp only [↓bO, go_sem, seval, aReslice, delO, List.filter_cons, List.filter_nil, Nat.reduceBEq]
  refine q0 _ ?_
  clear q0 Q0
  simp only [go_sem]
  simp only [↓bO, go_sem, seval, aReslice, delO, List.filter_cons, List.filter_nil, Nat.reduceBEq]
  refine y1 _ ?_
  try clear y1 Y1
  refine AWp_cond rfl (fun hb11 => ?_) (fun hb11 => ?_)
  ·
   cases hb11
  ·
   refine AWp_seqK fun Y1 y1 => ?_
   refine AWp_region ?_
   iterate 2 (refine aops_chunk 2 fun Q0 q0 => ?_; simp only [↓bO, go_sem, seval, aReslice, delO, List.filter_cons, List.filter_nil, Nat.reduceBEq]; refine q0 _ ?_; clear q0 Q0; simp only [go_sem])
   simp only [↓bO, go_sem, seval, aReslice, delO, List.filter_cons, List.filter_nil, Nat.reduceBEq]
   refine y1 _ ?_
   try clear y1 Y1
   refine AWp_cond rfl (fun hb14 => ?_) (fun hb14 => ?_)
   ·
    have hcs : S.clash = true := hb14
    refine AWp_seqK fun Y1 y1 => ?_
    refine AWp_region ?_
    simp only [↓bO, go_sem, seval, aReslice, delO, List.filter_cons, List.filter_nil, Nat.reduceBEq]
    refine y1 _ ?_
    try clear y1 Y1
    refine AWp_ret ?_
    try simp only [thenQ, blockQ, noGotoQ, retQ, aRes, tupOf, bS, bA]
    refine ⟨_, enumO 0 (cObs (S)), ⟨(S, 7), ?_, rfl, rfl⟩, .v _ _, cUnd (by omega) _, ?_, ?_, by omega⟩
    · exact ⟨.inl ⟨hcs, rfl⟩, .inl rfl⟩
    ·
     exact Le.refl _
    · first | (refine ⟨2, rfl, rfl⟩) | (refine ⟨2, by simp only [cObs, enumO, List.drop_zero, List.drop_succ_cons, Nat.reduceAdd], rfl⟩)
   ·
    have hcs : S.clash = false := hb14
    have hG := h hcs
    refine AWp_seqK fun Y1 y1 => ?_
    refine AWp_region ?_
    refine aops_chunk 1 fun Q0 q0 => ?_
    simp only [↓bO, go_sem, seval, aReslice, delO, List.filter_cons, List.filter_nil, Nat.reduceBEq]
    refine q0 _ ?_
    clear q0 Q0
    simp only [go_sem]
    refine aops_chunk 1 fun Q0 q0 => ?_
    simp only [↓bO, go_sem, seval, aReslice, delO, List.filter_cons, List.filter_nil, Nat.reduceBEq]
    refine APure.call (show APure Try.prog 51 [.agg [.v (.int .i64 l.k), .v (.int .i64 l.n), .sl 3 (l.ps.map Ty.cells)]] _ from by rw [Ty.refold]; exact Right_pure l) ?_
    try simp only [bS, bA, thenQ, blockQ, noGotoQ]
    refine q0 _ ?_
    clear q0 Q0
    simp only [go_sem]
    refine aops_chunk 2 fun Q0 q0 => ?_
    simp only [↓bO, go_sem, seval, aReslice, delO, List.filter_cons, List.filter_nil, Nat.reduceBEq]
    refine q0 _ ?_
    clear q0 Q0
    simp only [go_sem]
    refine aops_case 23 rfl (fun hc23 => ?_) (fun hc23 => ?_)
    ·
     simp only [List.set_cons_zero, List.set_cons_succ]
     have hno : (l.right && u.right) = false := by (have h9 : l.right = false := by simpa using hc23); rw [h9]; rfl
     iterate 2 (refine aops_chunk 2 fun Q0 q0 => ?_; simp only [↓bO, go_sem, seval, aReslice, delO, List.filter_cons, List.filter_nil, Nat.reduceBEq]; refine q0 _ ?_; clear q0 Q0; simp only [go_sem])
     simp only [↓bO, go_sem, seval, aReslice, delO, List.filter_cons, List.filter_nil, Nat.reduceBEq]
     refine y1 _ ?_
     try clear y1 Y1
     refine AWp_cond (b := true) (by first | exact rfl | exact congrArg (fun b => AV.v (.bool b)) hb19) (fun _ => ?_) (fun h => (by cases h))
     refine AWp_seqK fun Y1 y1 => ?_
     refine AWp_region ?_
     simp only [↓bO, go_sem, seval, aReslice, delO, List.filter_cons, List.filter_nil, Nat.reduceBEq]
     refine y1 _ ?_
     try clear y1 Y1
     refine AWp_ret ?_
     try simp only [thenQ, blockQ, noGotoQ, retQ, aRes, tupOf, bS, bA]
     refine ⟨_, enumO 0 (cObs (S)), ⟨(S, 1), ?_, rfl, rfl⟩, .v _ _, cUnd (by omega) _, ?_, ?_, by omega⟩
     · exact ⟨.inr (.inl ⟨hcs, hno, rfl⟩), .inl rfl⟩
     ·
      exact Le.refl _
     · first | (refine ⟨2, rfl, rfl⟩) | (refine ⟨2, by simp only [cObs, enumO, List.drop_zero, List.drop_succ_cons, Nat.reduceAdd], rfl⟩)
    ·
     simp only [List.set_cons_zero, List.set_cons_succ]
     have hlr : l.right = true := by simpa using hc23
     refine aops_chunk 1 fun Q0 q0 => ?_
     simp only [↓bO, go_sem, seval, aReslice, delO, List.filter_cons, List.filter_nil, Nat.reduceBEq]
     refine q0 _ ?_
     clear q0 Q0
     simp only [go_sem]
     refine aops_chunk 1 fun Q0 q0 => ?_
     simp only [↓bO, go_sem, seval, aReslice, delO, List.filter_cons, List.filter_nil, Nat.reduceBEq]
     refine APure.call (show APure Try.prog 51 [.agg [.v (.int .i64 u.k), .v (.int .i64 u.n), .sl 3 (u.ps.map Ty.cells)]] _ from by rw [Ty.refold]; exact Right_pure u) ?_
     try simp only [bS, bA, thenQ, blockQ, noGotoQ]
     refine q0 _ ?_
     clear q0 Q0
     simp only [go_sem]
     refine aops_chunk 2 fun Q0 q0 => ?_
     simp only [↓bO, go_sem, seval, aReslice, delO, List.filter_cons, List.filter_nil, Nat.reduceBEq]
     refine q0 _ ?_
     clear q0 Q0
     simp only [go_sem]
     simp only [↓bO, go_sem, seval, aReslice, delO, List.filter_cons, List.filter_nil, Nat.reduceBEq]
     refine y1 _ ?_
     try clear y1 Y1
     refine AWp_cond rfl (fun hb19 => ?_) (fun hb19 => ?_)
     ·
      have hno : (l.right && u.right) = false := by first | exact hno | ((have h9 : u.right = false := by simpa using hb19); rw [h9, Bool.and_false])
      refine AWp_seqK fun Y1 y1 => ?_
      refine AWp_region ?_
      simp only [↓bO, go_sem, seval, aReslice, delO, List.filter_cons, List.filter_nil, Nat.reduceBEq]
      refine y1 _ ?_
      try clear y1 Y1
      refine AWp_ret ?_
      try simp only [thenQ, blockQ, noGotoQ, retQ, aRes, tupOf, bS, bA]
      refine ⟨_, enumO 0 (cObs (S)), ⟨(S, 1), ?_, rfl, rfl⟩, .v _ _, cUnd (by omega) _, ?_, ?_, by omega⟩
      · exact ⟨.inr (.inl ⟨hcs, hno, rfl⟩), .inl rfl⟩
      ·
       exact Le.refl _
      · first | (refine ⟨2, rfl, rfl⟩) | (refine ⟨2, by simp only [cObs, enumO, List.drop_zero, List.drop_succ_cons, Nat.reduceAdd], rfl⟩)
     ·
      have hrr : u.right = true := by simpa using hb19
      refine AWp_skip ?_
      try simp only [thenQ, blockQ, noGotoQ]
      refine y0 _ ?_
      try clear y0 Y0
      refine AWp_joinF (σ := CS × Int × Int) (mB 73 129) (fun j => [(7, .own 10 1)]) (fun j => [(10, .row 90 2 ([(j.2.1, j.2.2)].map pC)), (0, .cells 89 [.v (.int .i64 j.1.steps), .ptr 1 0, .ptr 4 0, .own 7 j.1.W.length, .v (.bool j.1.clash)]), (1, .cells 118 [.osl 2 4 (j.1.G.N.map GNode.cells), .map 3]), (2, .tok 128 4 j.1.G.N.length), (3, .map (j.1.G.V.map vC)), (4, .cells 115 [.own 5 j.1.F.up.length, .own 6 j.1.F.rank.length, .v (.int .i64 j.1.F.sets), .v (.int .i64 j.1.F.steps)]), (5, .row 3 1 (j.1.F.up.map nC)), (6, .row 3 1 (j.1.F.rank.map intC)), (7, .row 3 1 (j.1.W.map intC))]) 11 (fun j => Good E (u.radd (l.radd m).1).1 j.1 ∧ j.2.1 = (l.radd m).2 ∧ j.2.2 = (u.radd (l.radd m).1).2 ∧ (0 ≤ j.2.1 ∧ j.2.1 < (j.1.G.N.length : Int)) ∧ (0 ≤ j.2.2 ∧ j.2.2 < (j.1.G.N.length : Int)) ∧ j.1.G = (u.gadd (l.gadd S.G).1).1 ∧ j.1.clash = false ∧ j.1.G.N.length ≤ 1048576 ∧ StepJ S j.1) ?_ (fun j hj => ?_)
      ·
       refine AAny_start [] 9 rfl mixed (trivial) rfl ?_
       dsimp only
       refine AAny_takeK 0 rfl (by kernel_rfl) (by kernel_rfl) (by kernel_rfl) (fun _ _ h => h) fun Q0 q0 => ?_
       simp only [↓bO, go_sem, seval, aReslice, delO, List.filter_cons, List.filter_nil, Nat.reduceBEq]
       refine q0 _ ?_
       clear q0 Q0
       refine AAny_takeK 3 rfl (by kernel_rfl) (by kernel_rfl) (by kernel_rfl) (fun _ _ h => h) fun Q0 q0 => ?_
       simp only [↓bO, go_sem, seval, aReslice, delO, List.filter_cons, List.filter_nil, Nat.reduceBEq]
       refine q0 _ ?_
       clear q0 Q0
       refine AAny_all2 (i := 1) (j := 4) (by kernel_rfl) ?_ ?_
       ·
        refine aAt_op rfl rfl fun Q0 q0 => ?_
        simp only [↓bO, go_sem, seval, aReslice, delO, List.filter_cons, List.filter_nil, Nat.reduceBEq]
        refine q0 _ ⟨trivial, ?_⟩
        clear q0 Q0
        refine AAny_all2 (i := 2) (j := 4) (by kernel_rfl) ?_ ?_
        ·
         refine aAt_op rfl rfl fun Q0 q0 => ?_
         simp only [↓bO, go_sem, seval, aReslice, delO, List.filter_cons, List.filter_nil, Nat.reduceBEq]
         rw [Ty.refold l]
         refine CCalls.at (lay_c S l hlr hG.w.c.g hG.w.c.f hG.w.c.fl hG.w.c.wl (by omega)) (.cons (Ty.dataAgg l) .nil) (fun _ => .v _) (i0 := 0) (i1 := 1) (i2 := 2) (i3 := 3) (i4 := 4) (i5 := 5) (i6 := 6) (i7 := 7) (by decide) (by simp) ⟨rfl, rfl, rfl, rfl, rfl, rfl, rfl, rfl, trivial⟩ (fun S1 n1 hL1 => ?_)
         try dsimp only at hL1
         simp only [cObsAt, List.zip_cons_cons, List.zip_nil_left, List.zip_nil_right, putsO, putO, Nat.reduceEqDiff, ↓reduceIte]
         obtain ⟨hG1, he1, hn1, hn1b, hg1, hc1⟩ := hG.lay hlr hcl hL1.1
         have hle1 := (l.gadd_inv S.G hG.w.c.g).1.le
         rw [← hg1] at hle1
         try simp only [bS, bA]
         refine q0 _ ⟨trivial, ?_⟩
         clear q0 Q0
         refine AAny_all1 (i := 4) (by kernel_rfl) ?_
         ·
          refine aAt_op rfl rfl fun Q0 q0 => ?_
          simp only [↓bO, go_sem, seval, aReslice, delO, List.filter_cons, List.filter_nil, Nat.reduceBEq]
          refine q0 _ ⟨trivial, ?_⟩
          clear q0 Q0
          refine AAny_all1 (i := 5) (by kernel_rfl) ?_
          ·
           refine aAt_op rfl rfl fun Q0 q0 => ?_
           simp only [↓bO, go_sem, seval, aReslice, delO, List.filter_cons, List.filter_nil, Nat.reduceBEq]
           rw [Ty.refold u]
           refine CCalls.at (lay_c S1 u hrr hG1.w.c.g hG1.w.c.f hG1.w.c.fl hG1.w.c.wl (by omega)) (.cons (Ty.dataAgg u) .nil) (fun _ => .v _) (i0 := 0) (i1 := 1) (i2 := 2) (i3 := 3) (i4 := 4) (i5 := 5) (i6 := 6) (i7 := 7) (by decide) (by simp) ⟨rfl, rfl, rfl, rfl, rfl, rfl, rfl, rfl, trivial⟩ (fun S2 n2 hL2 => ?_)
           try dsimp only at hL2
           simp only [cObsAt, List.zip_cons_cons, List.zip_nil_left, List.zip_nil_right, putsO, putO, Nat.reduceEqDiff, ↓reduceIte]
           obtain ⟨hG2, he2, hn2, hn2b, hg2, hc2⟩ := hG1.lay hrr hcr hL2.1
           have hle2 := (u.gadd_inv S1.G hG1.w.c.g).1.le
           have hge2 := (u.gadd_inv S1.G hG1.w.c.g).1.ge
           rw [← hg2] at hle2 hge2
           have hsj := StepJ.of hL1.1.lay hL2.1.lay hL1.2 hL2.2 hG.w.c.wl hG1.w.c.wl hG.w.c.fl (by dsimp only at hle1 ⊢; omega)
           try simp only [bS, bA]
           refine q0 _ ⟨trivial, ?_⟩
           clear q0 Q0
           refine AAny_all1 (i := 6) (by kernel_rfl) ?_
           ·
            refine aAt_op rfl rfl fun Q0 q0 => ?_
            simp only [↓bO, go_sem, seval, aReslice, delO, List.filter_cons, List.filter_nil, Nat.reduceBEq]
            refine q0 _ ⟨trivial, ?_⟩
            clear q0 Q0
            refine AAny_all1 (i := 7) (by kernel_rfl) ?_
            ·
             refine aAt_op rfl rfl fun Q0 q0 => ?_
             simp only [↓bO, go_sem, seval, ↓bs1_1, ↓bs1_2, ↓bs1_3, ↓bs1_4, ↓bs1_5, ↓bs1_6, ↓bs1_7, ↓bs1_8, ↓bs1_9, ↓bs1_10, ↓bs1_11, ↓bs1_12, aReslice, delO, List.filter_cons, List.filter_nil, Nat.reduceBEq]
             refine q0 _ ⟨trivial, ?_⟩
             clear q0 Q0
             refine AAny_takeK 8 rfl (by kernel_rfl) (by kernel_rfl) (by kernel_rfl) (fun _ _ h => h) fun Q0 q0 => ?_
             simp only [↓bO, go_sem, seval, aReslice, delO, List.filter_cons, List.filter_nil, Nat.reduceBEq]
             refine q0 _ ?_
             clear q0 Q0
             refine AAny_done (by kernel_rfl) ?_
             simp only [thenQ, blockQ, noGotoQ]
             try simp only [maskL, setsL, putsO, putO, mB, List.set_cons_zero, List.set_cons_succ, seval]
             refine ⟨(S2, n1, n2), ⟨hG2, he1, he2, ⟨hn1, by dsimp only; omega⟩, ⟨hn2, hn2b⟩, by dsimp only; rw [hg2, hg1], hc2.trans (hc1.trans hcs), by dsimp only; omega, hsj⟩, ?_⟩
             refine Weak.sub ?_ ⟨rfl, rfl, rfl, rfl, rfl, rfl, rfl, rfl, rfl, trivial⟩ (by first | omega | (simp only; omega)) (by first | omega | (simp only; omega)) ?_ ?_
             · simp only [go_sem, Le.refl, Le.any]
             · repeat' first | exact trivial | exact .any _ | exact .ptr (by omega) | exact .own (by omega) | exact .v _ _ | (refine ⟨?_, ?_⟩)
             · exact ⟨by omega, Und.rowI (pC_rows _), cUnd (by omega) _⟩
        ·
         refine aAt_op rfl rfl fun Q0 q0 => ?_
         simp only [↓bO, go_sem, seval, aReslice, delO, List.filter_cons, List.filter_nil, Nat.reduceBEq]
         refine q0 _ ⟨trivial, ?_⟩
         clear q0 Q0
         refine AAny_all1 (i := 2) (by kernel_rfl) ?_
         ·
          refine aAt_op rfl rfl fun Q0 q0 => ?_
          simp only [↓bO, go_sem, seval, aReslice, delO, List.filter_cons, List.filter_nil, Nat.reduceBEq]
          rw [Ty.refold l]
          refine CCalls.at (lay_c S l hlr hG.w.c.g hG.w.c.f hG.w.c.fl hG.w.c.wl (by omega)) (.cons (Ty.dataAgg l) .nil) (fun _ => .v _) (i0 := 0) (i1 := 1) (i2 := 2) (i3 := 3) (i4 := 4) (i5 := 5) (i6 := 6) (i7 := 7) (by decide) (by simp) ⟨rfl, rfl, rfl, rfl, rfl, rfl, rfl, rfl, trivial⟩ (fun S1 n1 hL1 => ?_)
          try dsimp only at hL1
          simp only [cObsAt, List.zip_cons_cons, List.zip_nil_left, List.zip_nil_right, putsO, putO, Nat.reduceEqDiff, ↓reduceIte]
          obtain ⟨hG1, he1, hn1, hn1b, hg1, hc1⟩ := hG.lay hlr hcl hL1.1
          have hle1 := (l.gadd_inv S.G hG.w.c.g).1.le
          rw [← hg1] at hle1
          try simp only [bS, bA]
          refine q0 _ ⟨trivial, ?_⟩
          clear q0 Q0
          refine AAny_all1 (i := 5) (by kernel_rfl) ?_
          ·
           refine aAt_op rfl rfl fun Q0 q0 => ?_
           simp only [↓bO, go_sem, seval, aReslice, delO, List.filter_cons, List.filter_nil, Nat.reduceBEq]
           rw [Ty.refold u]
           refine CCalls.at (lay_c S1 u hrr hG1.w.c.g hG1.w.c.f hG1.w.c.fl hG1.w.c.wl (by omega)) (.cons (Ty.dataAgg u) .nil) (fun _ => .v _) (i0 := 0) (i1 := 1) (i2 := 2) (i3 := 3) (i4 := 4) (i5 := 5) (i6 := 6) (i7 := 7) (by decide) (by simp) ⟨rfl, rfl, rfl, rfl, rfl, rfl, rfl, rfl, trivial⟩ (fun S2 n2 hL2 => ?_)
           try dsimp only at hL2
           simp only [cObsAt, List.zip_cons_cons, List.zip_nil_left, List.zip_nil_right, putsO, putO, Nat.reduceEqDiff, ↓reduceIte]
           obtain ⟨hG2, he2, hn2, hn2b, hg2, hc2⟩ := hG1.lay hrr hcr hL2.1
           have hle2 := (u.gadd_inv S1.G hG1.w.c.g).1.le
           have hge2 := (u.gadd_inv S1.G hG1.w.c.g).1.ge
           rw [← hg2] at hle2 hge2
           have hsj := StepJ.of hL1.1.lay hL2.1.lay hL1.2 hL2.2 hG.w.c.wl hG1.w.c.wl hG.w.c.fl (by dsimp only at hle1 ⊢; omega)
           try simp only [bS, bA]
           refine q0 _ ⟨trivial, ?_⟩
           clear q0 Q0
           refine AAny_all1 (i := 6) (by kernel_rfl) ?_
           ·
            refine aAt_op rfl rfl fun Q0 q0 => ?_
            simp only [↓bO, go_sem, seval, aReslice, delO, List.filter_cons, List.filter_nil, Nat.reduceBEq]
            refine q0 _ ⟨trivial, ?_⟩
            clear q0 Q0
            refine AAny_all1 (i := 7) (by kernel_rfl) ?_
            ·
             refine aAt_op rfl rfl fun Q0 q0 => ?_
             simp only [↓bO, go_sem, seval, ↓bs1_1, ↓bs1_2, ↓bs1_3, ↓bs1_4, ↓bs1_5, ↓bs1_6, ↓bs1_7, ↓bs1_8, ↓bs1_9, ↓bs1_10, ↓bs1_11, ↓bs1_12, aReslice, delO, List.filter_cons, List.filter_nil, Nat.reduceBEq]
             refine q0 _ ⟨trivial, ?_⟩
             clear q0 Q0
             refine AAny_takeK 8 rfl (by kernel_rfl) (by kernel_rfl) (by kernel_rfl) (fun _ _ h => h) fun Q0 q0 => ?_
             simp only [↓bO, go_sem, seval, aReslice, delO, List.filter_cons, List.filter_nil, Nat.reduceBEq]
             refine q0 _ ?_
             clear q0 Q0
             refine AAny_done (by kernel_rfl) ?_
             simp only [thenQ, blockQ, noGotoQ]
             try simp only [maskL, setsL, putsO, putO, mB, List.set_cons_zero, List.set_cons_succ, seval]
             refine ⟨(S2, n1, n2), ⟨hG2, he1, he2, ⟨hn1, by dsimp only; omega⟩, ⟨hn2, hn2b⟩, by dsimp only; rw [hg2, hg1], hc2.trans (hc1.trans hcs), by dsimp only; omega, hsj⟩, ?_⟩
             refine Weak.sub ?_ ⟨rfl, rfl, rfl, rfl, rfl, rfl, rfl, rfl, rfl, trivial⟩ (by first | omega | (simp only; omega)) (by first | omega | (simp only; omega)) ?_ ?_
             · simp only [go_sem, Le.refl, Le.any]
             · repeat' first | exact trivial | exact .any _ | exact .ptr (by omega) | exact .own (by omega) | exact .v _ _ | (refine ⟨?_, ?_⟩)
             · exact ⟨by omega, Und.rowI (pC_rows _), cUnd (by omega) _⟩
       ·
        refine aAt_op rfl rfl fun Q0 q0 => ?_
        simp only [↓bO, go_sem, seval, aReslice, delO, List.filter_cons, List.filter_nil, Nat.reduceBEq]
        refine q0 _ ⟨trivial, ?_⟩
        clear q0 Q0
        refine AAny_all1 (i := 1) (by kernel_rfl) ?_
        ·
         refine aAt_op rfl rfl fun Q0 q0 => ?_
         simp only [↓bO, go_sem, seval, aReslice, delO, List.filter_cons, List.filter_nil, Nat.reduceBEq]
         refine q0 _ ⟨trivial, ?_⟩
         clear q0 Q0
         refine AAny_all1 (i := 2) (by kernel_rfl) ?_
         ·
          refine aAt_op rfl rfl fun Q0 q0 => ?_
          simp only [↓bO, go_sem, seval, aReslice, delO, List.filter_cons, List.filter_nil, Nat.reduceBEq]
          rw [Ty.refold l]
          refine CCalls.at (lay_c S l hlr hG.w.c.g hG.w.c.f hG.w.c.fl hG.w.c.wl (by omega)) (.cons (Ty.dataAgg l) .nil) (fun _ => .v _) (i0 := 0) (i1 := 1) (i2 := 2) (i3 := 3) (i4 := 4) (i5 := 5) (i6 := 6) (i7 := 7) (by decide) (by simp) ⟨rfl, rfl, rfl, rfl, rfl, rfl, rfl, rfl, trivial⟩ (fun S1 n1 hL1 => ?_)
          try dsimp only at hL1
          simp only [cObsAt, List.zip_cons_cons, List.zip_nil_left, List.zip_nil_right, putsO, putO, Nat.reduceEqDiff, ↓reduceIte]
          obtain ⟨hG1, he1, hn1, hn1b, hg1, hc1⟩ := hG.lay hlr hcl hL1.1
          have hle1 := (l.gadd_inv S.G hG.w.c.g).1.le
          rw [← hg1] at hle1
          try simp only [bS, bA]
          refine q0 _ ⟨trivial, ?_⟩
          clear q0 Q0
          refine AAny_all1 (i := 5) (by kernel_rfl) ?_
          ·
           refine aAt_op rfl rfl fun Q0 q0 => ?_
           simp only [↓bO, go_sem, seval, aReslice, delO, List.filter_cons, List.filter_nil, Nat.reduceBEq]
           rw [Ty.refold u]
           refine CCalls.at (lay_c S1 u hrr hG1.w.c.g hG1.w.c.f hG1.w.c.fl hG1.w.c.wl (by omega)) (.cons (Ty.dataAgg u) .nil) (fun _ => .v _) (i0 := 0) (i1 := 1) (i2 := 2) (i3 := 3) (i4 := 4) (i5 := 5) (i6 := 6) (i7 := 7) (by decide) (by simp) ⟨rfl, rfl, rfl, rfl, rfl, rfl, rfl, rfl, trivial⟩ (fun S2 n2 hL2 => ?_)
           try dsimp only at hL2
           simp only [cObsAt, List.zip_cons_cons, List.zip_nil_left, List.zip_nil_right, putsO, putO, Nat.reduceEqDiff, ↓reduceIte]
           obtain ⟨hG2, he2, hn2, hn2b, hg2, hc2⟩ := hG1.lay hrr hcr hL2.1
           have hle2 := (u.gadd_inv S1.G hG1.w.c.g).1.le
           have hge2 := (u.gadd_inv S1.G hG1.w.c.g).1.ge
           rw [← hg2] at hle2 hge2
           have hsj := StepJ.of hL1.1.lay hL2.1.lay hL1.2 hL2.2 hG.w.c.wl hG1.w.c.wl hG.w.c.fl (by dsimp only at hle1 ⊢; omega)
           try simp only [bS, bA]
           refine q0 _ ⟨trivial, ?_⟩
           clear q0 Q0
           refine AAny_all1 (i := 6) (by kernel_rfl) ?_
           ·
            refine aAt_op rfl rfl fun Q0 q0 => ?_
            simp only [↓bO, go_sem, seval, aReslice, delO, List.filter_cons, List.filter_nil, Nat.reduceBEq]
            refine q0 _ ⟨trivial, ?_⟩
            clear q0 Q0
            refine AAny_all1 (i := 7) (by kernel_rfl) ?_
            ·
             refine aAt_op rfl rfl fun Q0 q0 => ?_
             simp only [↓bO, go_sem, seval, ↓bs1_1, ↓bs1_2, ↓bs1_3, ↓bs1_4, ↓bs1_5, ↓bs1_6, ↓bs1_7, ↓bs1_8, ↓bs1_9, ↓bs1_10, ↓bs1_11, ↓bs1_12, aReslice, delO, List.filter_cons, List.filter_nil, Nat.reduceBEq]
             refine q0 _ ⟨trivial, ?_⟩
             clear q0 Q0
             refine AAny_takeK 8 rfl (by kernel_rfl) (by kernel_rfl) (by kernel_rfl) (fun _ _ h => h) fun Q0 q0 => ?_
             simp only [↓bO, go_sem, seval, aReslice, delO, List.filter_cons, List.filter_nil, Nat.reduceBEq]
             refine q0 _ ?_
             clear q0 Q0
             refine AAny_done (by kernel_rfl) ?_
             simp only [thenQ, blockQ, noGotoQ]
             try simp only [maskL, setsL, putsO, putO, mB, List.set_cons_zero, List.set_cons_succ, seval]
             refine ⟨(S2, n1, n2), ⟨hG2, he1, he2, ⟨hn1, by dsimp only; omega⟩, ⟨hn2, hn2b⟩, by dsimp only; rw [hg2, hg1], hc2.trans (hc1.trans hcs), by dsimp only; omega, hsj⟩, ?_⟩
             refine Weak.sub ?_ ⟨rfl, rfl, rfl, rfl, rfl, rfl, rfl, rfl, rfl, trivial⟩ (by first | omega | (simp only; omega)) (by first | omega | (simp only; omega)) ?_ ?_
             · simp only [go_sem, Le.refl, Le.any]
             · repeat' first | exact trivial | exact .any _ | exact .ptr (by omega) | exact .own (by omega) | exact .v _ _ | (refine ⟨?_, ?_⟩)
             · exact ⟨by omega, Und.rowI (pC_rows _), cUnd (by omega) _⟩
      simp only [maskL, setsL, putsO, putO, mB, List.set_cons_zero, List.set_cons_succ, seval]
      refine AWp_seqK fun Y0 y0 => ?_
      refine AWp_label ?_
      try simp only [thenQ, blockQ, noGotoQ]
      refine y0 _ ?_
      try clear y0 Y0
      refine AWp_seqK fun Y0 y0 => ?_
      refine AWp_block ?_
      refine AWp_loopM (σ := CS × List (Int × Int)) (mB 73 129) (fun s => WInv (E ++ [(j.2.1.toNat, j.2.2.toNat)]) s.1 s.2 ∧ s.1.clash = false ∧ s.1.G = j.1.G ∧ 9 * nroots s.1.F.up + s.2.length ≤ 9437185 ∧ StepL S s.1 s.2.length) (fun s => [(7, .own 10 s.2.length)]) (fun s => [(10, .row 90 2 (s.2.map pC)), (0, .cells 89 [.v (.int .i64 s.1.steps), .ptr 1 0, .ptr 4 0, .own 7 s.1.W.length, .v (.bool s.1.clash)]), (1, .cells 118 [.osl 2 4 (s.1.G.N.map GNode.cells), .map 3]), (2, .tok 128 4 s.1.G.N.length), (3, .map (s.1.G.V.map vC)), (4, .cells 115 [.own 5 s.1.F.up.length, .own 6 s.1.F.rank.length, .v (.int .i64 s.1.F.sets), .v (.int .i64 s.1.F.steps)]), (5, .row 3 1 (s.1.F.up.map nC)), (6, .row 3 1 (s.1.F.rank.map intC)), (7, .row 3 1 (s.1.W.map intC))]) (fun s => 9 * nroots s.1.F.up + s.2.length) (j.1, [(j.2.1, j.2.2)]) (⟨hj.1.w.begin hj.2.2.2.1 hj.2.2.2.2.1, hj.2.2.2.2.2.2.1, rfl, by have h7 := nroots_le j.1.F.up; have h8 := hj.1.w.c.fl; have h9 := hj.1.w.c.wl; have h6 := hj.2.2.2.2.2.2.2.1; simp only [List.length_cons, List.length_nil]; omega, hj.2.2.2.2.2.2.2.2.start⟩) ?_ (fun s hs => ?_)
      ·
       simp only [maskL, setsL, putsO, putO, mB, List.set_cons_zero, List.set_cons_succ, seval, bL]
       exact Weak.mk (by simp only [go_sem, Le.refl, Le.any, Le.slNil, Int.natCast_add, Int.cast_ofNat_Int, Int.natCast_one]) (fun _ _ h => h) rfl rfl
      simp only [maskL, setsL, putsO, putO, mB, List.set_cons_zero, List.set_cons_succ, seval]
      refine AWp_seqK fun Y1 y1 => ?_
      refine AWp_seqK fun Y2 y2 => ?_
      refine AWp_region ?_
      refine aops_chunk 2 fun Q0 q0 => ?_
      simp only [↓bO, go_sem, seval, aReslice, delO, List.filter_cons, List.filter_nil, Nat.reduceBEq]
      refine q0 _ ?_
      clear q0 Q0
      simp only [go_sem]
      simp only [↓bO, go_sem, seval, aReslice, delO, List.filter_cons, List.filter_nil, Nat.reduceBEq]
      refine y2 _ ?_
      try clear y2 Y2
      refine AWp_cond rfl (fun hb38 => ?_) (fun hb38 => ?_)
      ·
       have hwl : 0 < s.2.length := by simpa using hb38
       obtain ⟨w0, p9, hw⟩ : ∃ w0 p, s.2 = w0 ++ [p] := snoc_of hwl
       have hwr := hs.1.wr p9 (by rw [hw]; simp)
       obtain ⟨a, b, rfl⟩ : ∃ a b : Nat, p9 = ((a : Int), (b : Int)) := ⟨p9.1.toNat, p9.2.toNat, by ext <;> simp only <;> omega⟩
       have hw2 : WInv (E ++ [(j.2.1.toNat, j.2.2.toNat)]) s.1 (w0 ++ [((a : Int), (b : Int))]) := by rw [← hw]; exact hs.1
       have hbd := hs.2.2.2.1
       have hwl2 : s.2.length = w0.length + 1 := by rw [hw]; simp
       have hwr2 : IntKind.i64.wrap ((w0.length : Int) + 1 - 1) = (w0.length : Int) := by rw [wrap_in (by omega) (by omega)]; omega
       have hgd : (s.2.map pC).getD w0.length [] = pC ((a : Int), (b : Int)) := gM (by rw [hw]; simp)
       have htk : (s.2.map pC).take w0.length = w0.map pC := by rw [hw]; simp
       have hlt9 : (w0.length : Int) < (w0.length : Int) + 1 := by omega
       have hle9 : (w0.length : Int) ≤ (w0.length : Int) + 1 := by omega
       have h09 : (0 : Int) ≤ (w0.length : Int) := by omega
       have hlen9 := hs.1.c.fl
       have hlen8 := hs.1.c.wl
       have hn1 : nroots S.F.up ≤ 1048576 := by (have h7 := nroots_le S.F.up; have h8 := hG.w.c.fl; have h9 := hG.w.c.wl; omega)
       have hn2 : s.1.G.N.length ≤ 1048576 := by rw [hs.2.2.1]; exact hj.2.2.2.2.2.2.2.1
       refine AWp_skip ?_
       try simp only [thenQ, blockQ, noGotoQ]
       refine y1 _ ?_
       try clear y1 Y1
       refine AWp_block ?_
       refine AWp_seqK fun Y1 y1 => ?_
       refine AWp_region ?_
       refine aops_chunk 2 fun Q0 q0 => ?_
       simp only [↓bO, go_sem, seval, aReslice, delO, List.filter_cons, List.filter_nil, Nat.reduceBEq, hwl2, hwr2, Nat.lt_add_one, Nat.le_add_right, hgd, htk, hlt9, hle9, h09, pC, Int.natCast_add]
       refine q0 _ ?_
       clear q0 Q0
       simp only [go_sem]
       refine aops_chunk 1 fun Q0 q0 => ?_
       simp only [↓bO, go_sem, seval, aReslice, delO, List.filter_cons, List.filter_nil, Nat.reduceBEq, hwl2, hwr2, Nat.lt_add_one, Nat.le_add_right, hgd, htk, hlt9, hle9, h09, pC, Int.natCast_add]
       refine q0 _ ?_
       clear q0 Q0
       simp only [go_sem]
       simp only [↓bO, go_sem, seval, aReslice, delO, List.filter_cons, List.filter_nil, Nat.reduceBEq, hwl2, hwr2, Nat.lt_add_one, Nat.le_add_right, hgd, htk, hlt9, hle9, h09, pC, Int.natCast_add]
       refine tick_at rfl ?_
       simp only [putO, Nat.reduceEqDiff, ↓reduceIte]
       try simp only [bS, bA, thenQ, blockQ, noGotoQ]
       refine y1 _ ?_
       try clear y1 Y1
       refine AWp_seqK fun Y1 y1 => ?_
       refine AWp_region ?_
       iterate 3 (refine aops_chunk 2 fun Q0 q0 => ?_; simp only [↓bO, go_sem, seval, aReslice, delO, List.filter_cons, List.filter_nil, Nat.reduceBEq, hwl2, hwr2, Nat.lt_add_one, Nat.le_add_right, hgd, htk, hlt9, hle9, h09, pC, Int.natCast_add]; refine q0 _ ?_; clear q0 Q0; simp only [go_sem])
       simp only [↓bO, go_sem, seval, aReslice, delO, List.filter_cons, List.filter_nil, Nat.reduceBEq, hwl2, hwr2, Nat.lt_add_one, Nat.le_add_right, hgd, htk, hlt9, hle9, h09, pC, Int.natCast_add]
       refine y1 _ ?_
       try clear y1 Y1
       refine AWp_seqK fun Y1 y1 => ?_
       refine AWp_region ?_
       iterate 2 (refine aops_chunk 2 fun Q0 q0 => ?_; simp only [↓bO, go_sem, seval, aReslice, delO, List.filter_cons, List.filter_nil, Nat.reduceBEq, hwl2, hwr2, Nat.lt_add_one, Nat.le_add_right, hgd, htk, hlt9, hle9, h09, pC, Int.natCast_add]; refine q0 _ ?_; clear q0 Q0; simp only [go_sem])
       simp only [↓bO, go_sem, seval, aReslice, delO, List.filter_cons, List.filter_nil, Nat.reduceBEq, hwl2, hwr2, Nat.lt_add_one, Nat.le_add_right, hgd, htk, hlt9, hle9, h09, pC, Int.natCast_add]
       refine y1 _ ?_
       try clear y1 Y1
       refine AWp_seqK fun Y1 y1 => ?_
       refine AWp_region ?_
       iterate 2 (refine aops_chunk 2 fun Q0 q0 => ?_; simp only [↓bO, go_sem, seval, aReslice, delO, List.filter_cons, List.filter_nil, Nat.reduceBEq, hwl2, hwr2, Nat.lt_add_one, Nat.le_add_right, hgd, htk, hlt9, hle9, h09, pC, Int.natCast_add]; refine q0 _ ?_; clear q0 Q0; simp only [go_sem])
       refine aops_chunk 1 fun Q0 q0 => ?_
       simp only [↓bO, go_sem, seval, aReslice, delO, List.filter_cons, List.filter_nil, Nat.reduceBEq, hwl2, hwr2, Nat.lt_add_one, Nat.le_add_right, hgd, htk, hlt9, hle9, h09, pC, Int.natCast_add]
       refine q0 _ ?_
       clear q0 Q0
       simp only [go_sem]
       refine aops_chunk 1 fun Q0 q0 => ?_
       simp only [↓bO, go_sem, seval, aReslice, delO, List.filter_cons, List.filter_nil, Nat.reduceBEq, hwl2, hwr2, Nat.lt_add_one, Nat.le_add_right, hgd, htk, hlt9, hle9, h09, pC, Int.natCast_add]
       refine CCalls.at (join_c { s.1 with steps := IntKind.i64.wrap (s.1.steps + 1) } ⟨hs.1.c.g, hs.1.c.f, hs.1.c.fl, hs.1.c.wl, hs.1.c.wr, hs.1.c.pl, hs.1.c.pr⟩ a b (by dsimp only; omega) (by dsimp only; omega)) (.cons (.v _) (.cons (.v _) .nil)) (fun _ => .tup (.cons (pC_data _) (.cons (.v _) .nil))) (i0 := 0) (i1 := 1) (i2 := 2) (i3 := 3) (i4 := 4) (i5 := 5) (i6 := 6) (i7 := 7) (by decide) (by simp) ⟨rfl, rfl, rfl, rfl, rfl, rfl, rfl, rfl, trivial⟩ (fun S3 r3 j0 => ?_)
       try dsimp only at j0
       simp only [cObsAt, List.zip_cons_cons, List.zip_nil_left, List.zip_nil_right, putsO, putO, Nat.reduceEqDiff, ↓reduceIte]
       have hJ : CJoin s.1 a b (S3, r3) := ⟨j0.1.g, j0.1.c, j0.1.ex⟩
       have hsl0 := fun ok (hj : CJoin s.1 a b (S3, (r3.1, ok))) => hs.2.2.2.2.step hn1 hn2 j0.2 j0.1.g (by have h8 := hw2.less hj; rw [← hw] at h8; exact h8)
       try simp only [bS, bA, thenQ, blockQ, noGotoQ]
       iterate 2 (refine q0 _ ?_; clear q0 Q0; simp only [go_sem]; refine aops_chunk 2 fun Q0 q0 => ?_; simp only [↓bO, go_sem, seval, aReslice, delO, List.filter_cons, List.filter_nil, Nat.reduceBEq, hwl2, hwr2, Nat.lt_add_one, Nat.le_add_right, hgd, htk, hlt9, hle9, h09, pC, Int.natCast_add])
       refine q0 _ ?_
       clear q0 Q0
       simp only [go_sem]
       simp only [↓bO, go_sem, seval, aReslice, delO, List.filter_cons, List.filter_nil, Nat.reduceBEq, hwl2, hwr2, Nat.lt_add_one, Nat.le_add_right, hgd, htk, hlt9, hle9, h09, pC, Int.natCast_add]
       refine y1 _ ?_
       try clear y1 Y1
       refine AWp_seqK fun Y1 y1 => ?_
       refine AWp_seqK fun Y2 y2 => ?_
       refine AWp_region ?_
       simp only [↓bO, go_sem, seval, aReslice, delO, List.filter_cons, List.filter_nil, Nat.reduceBEq, hwl2, hwr2, Nat.lt_add_one, Nat.le_add_right, hgd, htk, hlt9, hle9, h09, pC, Int.natCast_add]
       refine y2 _ ?_
       try clear y2 Y2
       refine AWp_cond rfl (fun hb64 => ?_) (fun hb64 => ?_)
       ·
        have hJ2 : CJoin s.1 a b (S3, (r3.1, false)) := by (have h9 : r3.2 = false := by simpa using hb64); rw [← h9]; exact hJ
        have hfg : S3.G = (u.gadd (l.gadd S.G).1).1 := hJ.g.trans (hs.2.2.1.trans hj.2.2.2.2.2.1)
        have hbad := hw2.bad hJ2
        rw [hs.2.2.1, hj.1.rel.sh, hj.2.1, hj.2.2.1] at hbad
        have hsl : StepL S S3 (w0 ++ r3.1).length := hsl0 _ hJ2
        have hsl2 : StepL S { S3 with clash := true } (w0 ++ r3.1).length := hsl
        refine AWp_seqK fun Y2 y2 => ?_
        refine AWp_region ?_
        refine aops_chunk 2 fun Q0 q0 => ?_
        simp only [↓bO, go_sem, seval, aReslice, delO, List.filter_cons, List.filter_nil, Nat.reduceBEq, hwl2, hwr2, Nat.lt_add_one, Nat.le_add_right, hgd, htk, hlt9, hle9, h09, pC, Int.natCast_add]
        refine q0 _ ?_
        clear q0 Q0
        simp only [go_sem]
        simp only [↓bO, go_sem, seval, aReslice, delO, List.filter_cons, List.filter_nil, Nat.reduceBEq, hwl2, hwr2, Nat.lt_add_one, Nat.le_add_right, hgd, htk, hlt9, hle9, h09, pC, Int.natCast_add]
        refine y2 _ ?_
        try clear y2 Y2
        refine AWp_exit ?_
        simp only [thenQ, blockQ, noGotoQ, bA, Nat.reduceEqDiff, ↓reduceIte]
        refine y0 _ ?_
        try clear y0 Y0
        refine AWp_seqK fun Y0 y0 => ?_
        refine AWp_region ?_
        refine aops_chunk 1 fun Q0 q0 => ?_
        simp only [↓bO, go_sem, seval, aReslice, delO, List.filter_cons, List.filter_nil, Nat.reduceBEq]
        refine q0 _ ?_
        clear q0 Q0
        simp only [go_sem]
        refine aops_chunk 1 fun Q0 q0 => ?_
        simp only [↓bO, go_sem, seval, aReslice, delO, List.filter_cons, List.filter_nil, Nat.reduceBEq]
        refine CCalls.at (Err_c { S3 with clash := true }) (.nil) (fun _ => .v _) (i0 := 0) (i1 := 1) (i2 := 2) (i3 := 3) (i4 := 4) (i5 := 5) (i6 := 6) (i7 := 7) (by decide) (by simp) ⟨rfl, rfl, rfl, rfl, rfl, rfl, rfl, rfl, trivial⟩ (fun Z9 u9 hZ9 => ?_)
        try dsimp only at hZ9
        simp only [cObsAt, List.zip_cons_cons, List.zip_nil_left, List.zip_nil_right, putsO, putO, Nat.reduceEqDiff, ↓reduceIte]
        subst hZ9
        try simp only [bS, bA, thenQ, blockQ, noGotoQ]
        refine q0 _ ?_
        clear q0 Q0
        simp only [go_sem]
        simp only [↓bO, go_sem, seval, aReslice, delO, List.filter_cons, List.filter_nil, Nat.reduceBEq]
        refine y0 _ ?_
        try clear y0 Y0
        refine AWp_ret ?_
        try simp only [thenQ, blockQ, noGotoQ, retQ, aRes, tupOf, bS, bA]
        refine ⟨_, enumO 0 (cObs ({ S3 with clash := true })), ⟨({ S3 with clash := true }, 7), ?_, rfl, rfl⟩, .v _ _, cUnd (by omega) _, ?_, ?_, by omega⟩
        · exact ⟨.inr (.inr ⟨hcs, hlr, hrr, hfg, .inr ⟨rfl, rfl, hbad⟩⟩), hsl2.last⟩
        ·
         exact Le.refl _
        · first | (refine ⟨2, rfl, rfl⟩) | (refine ⟨3, rfl, rfl⟩) | (refine ⟨4, rfl, rfl⟩) | (refine ⟨5, rfl, rfl⟩) | (refine ⟨2, by simp only [cObs, enumO, List.drop_zero, List.drop_succ_cons, Nat.reduceAdd], rfl⟩) | (refine ⟨3, by simp only [cObs, enumO, List.drop_zero, List.drop_succ_cons, Nat.reduceAdd], rfl⟩) | (refine ⟨4, by simp only [cObs, enumO, List.drop_zero, List.drop_succ_cons, Nat.reduceAdd], rfl⟩) | (refine ⟨5, by simp only [cObs, enumO, List.drop_zero, List.drop_succ_cons, Nat.reduceAdd], rfl⟩)
       ·
        have hJ2 : CJoin s.1 a b (S3, (r3.1, true)) := by (have h9 : r3.2 = true := by simpa using hb64); rw [← h9]; exact hJ
        have hst := hw2.step hJ2
        have hsl : StepL S S3 (w0 ++ r3.1).length := hsl0 _ hJ2
        have hls := hw2.less hJ2
        have hml : r3.1.length ≤ 9437185 := by have := hs.2.2.2.1; simp only [hw, List.length_append] at this hls; omega
        have hb1 : (w0.length + r3.1.length) * 16 ≤ 140737488355328 := by omega
        have hb2 : w0.length + r3.1.length ≤ maxLen := by simp only [maxLen]; omega
        refine AWp_skip ?_
        try simp only [thenQ, blockQ, noGotoQ]
        refine y1 _ ?_
        try clear y1 Y1
        refine AWp_region ?_
        refine aops_chunk 2 fun Q0 q0 => ?_
        simp only [↓bO, go_sem, seval, aReslice, delO, List.filter_cons, List.filter_nil, Nat.reduceBEq, hwl2, hwr2, Nat.lt_add_one, Nat.le_add_right, hgd, htk, hlt9, hle9, h09, pC, Int.natCast_add, hb1, hb2, pC_all, pC_app, List.length_append]
        refine q0 _ ?_
        clear q0 Q0
        simp only [go_sem]
        simp only [↓bO, go_sem, seval, aReslice, delO, List.filter_cons, List.filter_nil, Nat.reduceBEq, hwl2, hwr2, Nat.lt_add_one, Nat.le_add_right, hgd, htk, hlt9, hle9, h09, pC, Int.natCast_add, hb1, hb2, pC_all, pC_app, List.length_append]
        refine ⟨(S3, w0 ++ r3.1), ⟨hst, hJ2.c.trans hs.2.1, hJ2.g.trans hs.2.2.1, by have h9 := hs.2.2.2.1; have h8 := hls; simp only [List.length_append, List.length_cons, List.length_nil] at h8 ⊢; omega, hsl⟩, (by have h8 := hls; simp only [List.length_append, List.length_cons, List.length_nil] at h8 ⊢; omega), ?_⟩
        simp only [maskL, setsL, putsO, putO, mB, List.set_cons_zero, List.set_cons_succ, seval, List.length_append]
        refine Weak.backOwn 10 12 7 (w0.length + r3.1.length) (by first | omega | (simp only; omega)) (by first | omega | (simp only; omega)) (by first | omega | (simp only; omega)) ?_ ?_ ?_ ?_ ?_
        · simp only [List.set_cons_zero, List.set_cons_succ, LeL, Le.refl, Le.any, and_self]
        ·
         simp only [List.set_cons_zero, List.set_cons_succ]
         repeat' first | exact trivial | exact .any | exact .ptr rfl | exact .own rfl | exact .v _ | (refine ⟨?_, ?_⟩)
        · exact ⟨⟨_, rfl, .row (pC_rows _)⟩, ⟨_, rfl, .cells ⟨.v _, .ptr rfl, .ptr rfl, .own rfl, .v _, trivial⟩⟩, ⟨_, rfl, .cells ⟨.osl rfl (GNode.dataRows _), .map rfl, trivial⟩⟩, ⟨_, rfl, .tok⟩, ⟨_, rfl, .map (vC_data _)⟩, ⟨_, rfl, .cells ⟨.own rfl, .own rfl, .v _, .v _, trivial⟩⟩, ⟨_, rfl, .row (nC_data _)⟩, ⟨_, rfl, .row (iC_data _)⟩, ⟨_, rfl, .row (iC_data _)⟩, trivial⟩
        · repeat' first | exact trivial | exact .any _ | exact .ptr (by omega) | exact .own (by omega) | exact .v _ _ | (refine ⟨?_, ?_⟩)
        · exact ⟨by omega, Und.rowI (pC_rows _), cUnd (by omega) _⟩
      ·
       have hwn : s.2 = [] := by have h9 : ¬ ((s.2.length : Int) > 0) := of_decide_eq_false hb38; exact List.length_eq_zero_iff.1 (by omega)
       have hgood : Good (E ++ [((l.radd m).2.toNat, (u.radd (l.radd m).1).2.toNat)]) (u.radd (l.radd m).1).1 s.1 := ⟨by have h9 := hs.1; rw [hwn, hj.2.1, hj.2.2.1] at h9; exact h9, by rw [hs.2.2.1]; exact hj.1.rel⟩
       refine AWp_exit ?_
       simp only [thenQ, blockQ, noGotoQ, bA, Nat.reduceEqDiff, ↓reduceIte]
       refine y0 _ ?_
       try clear y0 Y0
       refine AWp_seqK fun Y0 y0 => ?_
       refine AWp_region ?_
       refine aops_chunk 1 fun Q0 q0 => ?_
       simp only [↓bO, go_sem, seval, aReslice, delO, List.filter_cons, List.filter_nil, Nat.reduceBEq]
       refine q0 _ ?_
       clear q0 Q0
       simp only [go_sem]
       refine aops_chunk 1 fun Q0 q0 => ?_
       simp only [↓bO, go_sem, seval, aReslice, delO, List.filter_cons, List.filter_nil, Nat.reduceBEq]
       refine CCalls.at (Err_c s.1) (.nil) (fun _ => .v _) (i0 := 0) (i1 := 1) (i2 := 2) (i3 := 3) (i4 := 4) (i5 := 5) (i6 := 6) (i7 := 7) (by decide) (by simp) ⟨rfl, rfl, rfl, rfl, rfl, rfl, rfl, rfl, trivial⟩ (fun Z9 u9 hZ9 => ?_)
       try dsimp only at hZ9
       simp only [cObsAt, List.zip_cons_cons, List.zip_nil_left, List.zip_nil_right, putsO, putO, Nat.reduceEqDiff, ↓reduceIte]
       subst hZ9
       try simp only [bS, bA, thenQ, blockQ, noGotoQ]
       refine q0 _ ?_
       clear q0 Q0
       simp only [go_sem]
       simp only [↓bO, go_sem, seval, aReslice, delO, List.filter_cons, List.filter_nil, Nat.reduceBEq]
       refine y0 _ ?_
       try clear y0 Y0
       refine AWp_ret ?_
       try simp only [thenQ, blockQ, noGotoQ, retQ, aRes, tupOf, bS, bA]
       refine ⟨_, enumO 0 (cObs (s.1)), ⟨(s.1, 0), ?_, rfl, rfl⟩, .v _ _, cUnd (by omega) _, ?_, ?_, by omega⟩
       · exact ⟨.inr (.inr ⟨hcs, hlr, hrr, hs.2.2.1.trans hj.2.2.2.2.2.1, .inl ⟨rfl, hs.2.1, hgood⟩⟩), hs.2.2.2.2.last⟩
       ·
        rw [hs.2.1]; exact Le.refl _
       · first | (refine ⟨0, rfl, rfl⟩) | (refine ⟨1, rfl, rfl⟩) | (refine ⟨2, rfl, rfl⟩) | (refine ⟨3, rfl, rfl⟩) | (refine ⟨0, by simp only [cObs, enumO, List.drop_zero, List.drop_succ_cons, Nat.reduceAdd], rfl⟩) | (refine ⟨1, by simp only [cObs, enumO, List.drop_zero, List.drop_succ_cons, Nat.reduceAdd], rfl⟩) | (refine ⟨2, by simp only [cObs, enumO, List.drop_zero, List.drop_succ_cons, Nat.reduceAdd], rfl⟩) | (refine ⟨3, by simp only [cObs, enumO, List.drop_zero, List.drop_succ_cons, Nat.reduceAdd], rfl⟩)
theorem CCalls.mono {σ : Type} {f : Nat} {args : List AV} {S : CS} {C C' : CS × σ → Prop} {R : σ → AV} (h : CCalls f args S C R) (k : ∀ s, C s → C' s) : CCalls f args S C' R := by
  refine ACalls.mono h ?_
  rintro r os n ⟨⟨s, h1, h2, h3⟩, h4⟩
  exact ⟨⟨s, k s h1, h2, h3⟩, h4⟩
theorem Equate_c (S : CS) (E : List (Nat × Nat)) (m : List RNode) (l u : Ty) (h : S.clash = false → Good E m S) (hl : S.G.N.length + l.cnt + u.cnt ≤ 1048576) (hcl : l.cnt ≤ 400) (hcr : u.cnt ≤ 400) : CCalls (σ := Int) 13 [.ptr 0 0, .agg l.cells, .agg u.cells] S (fun s => EqR S E m l u s) (fun s => .v (.int .i64 s)) :=
  CCalls.mono (Equate2_c S E m l u h hl hcl hcr) fun _ h => h.1
end Go.Proofs.Ytjjjckjebkmnjaa
namespace Go.Proofs.Ytjjjckjebkmnjaa
open Go Go.RowKit
set_option maxRecDepth 100000
set_option maxHeartbeats 4000000
set_option linter.unusedSimpArgs false
set_option linter.unusedVariables false
attribute [local irreducible] aops dRun
structure EqT where
  l : Ty
  r : Ty
  a : Int
  b : Int
def EqT.cells (e : EqT) : List AV := [.v (.int .i64 e.l.k), .v (.int .i64 e.l.n), .sl 3 (e.l.ps.map Ty.cells), .v (.int .i64 e.r.k), .v (.int .i64 e.r.n), .sl 3 (e.r.ps.map Ty.cells), .v (.int .i64 e.a), .v (.int .i64 e.b)]
theorem EqT.data (e : EqT) : DataL e.cells := .cons (.v _) (.cons (.v _) (.cons (Ty.dataSl _) (.cons (.v _) (.cons (.v _) (.cons (Ty.dataSl _) (.cons (.v _) (.cons (.v _) .nil)))))))
theorem EqT.dataSl (es : List EqT) : Data (.sl 8 (es.map EqT.cells)) := .sl fun x hx => by
  obtain ⟨y, _, rfl⟩ := List.mem_map.1 hx
  exact y.data
def EqT.p (e : EqT) : Ty × Ty := (e.l, e.r)
def sumP : List (Ty × Ty) → Nat
  | [] => 0
  | e :: l => e.1.cnt + e.2.cnt + sumP l
theorem sumP_snoc : ∀ (l : List (Ty × Ty)) (e : Ty × Ty), sumP (l ++ [e]) = sumP l + (e.1.cnt + e.2.cnt)
  | [], e => by simp [sumP]
  | x :: l, e => by simp only [List.cons_append, sumP, sumP_snoc l e]; omega
theorem Holds.step {d : List (Ty × Ty)} {e : Ty × Ty} {S : CS} {s : CS × Int} (h : Holds d S) (hs : EqR S (nat2 (eqF d).2) (eqF d).1 e.1 e.2 s) :
    ((e.1.right && e.2.right) = false ∧ s.2 = 1) ∨ ((e.1.right && e.2.right) = true ∧ Clashes (d ++ [e]) ∧ s.2 = 7) ∨
    ((e.1.right && e.2.right) = true ∧ ¬ Clashes (d ++ [e]) ∧ s.2 = 0 ∧ Holds (d ++ [e]) s.1 ∧ s.1.G.N.length ≤ S.G.N.length + (e.1.cnt + e.2.cnt)) := by
  have hE : (eqF (d ++ [e])).1 = (e.2.radd (e.1.radd (eqF d).1).1).1 ∧ nat2 (eqF (d ++ [e])).2 = nat2 (eqF d).2 ++ [((e.1.radd (eqF d).1).2.toNat, (e.2.radd (e.1.radd (eqF d).1).1).2.toNat)] := by
    rw [eqF_snoc]
    exact ⟨rfl, by simp only [eqStep, nat2, List.map_append, List.map_cons, List.map_nil]⟩
  rcases hs with ⟨h1, _⟩ | ⟨_, h1, h2⟩ | ⟨_, h1, h2, h3, h4⟩
  · rw [h.1] at h1; cases h1
  · exact .inl ⟨h1, by rw [h2]⟩
  · have hr : (e.1.right && e.2.right) = true := by rw [h1, h2]; rfl
    rcases h4 with ⟨h4, h5, h6⟩ | ⟨h4, h5, h6⟩
    · have hH : Holds (d ++ [e]) s.1 := ⟨h5, by rw [hE.1, hE.2]; exact h6⟩
      refine .inr (.inr ⟨hr, hH.noClash, h4, hH, ?_⟩)
      have g1 := e.1.gadd_inv S.G h.2.w.c.g
      have g2 := e.2.gadd_inv _ g1.1.inv
      have := g1.1.le
      have := g2.1.le
      rw [h3]; omega
    · exact .inr (.inl ⟨hr, by unfold Clashes; rw [hE.1, hE.2]; exact h6, h4⟩)
def CS0 : CS := ⟨⟨[], []⟩, ⟨[], [], 0, 0⟩, [], 0, false⟩
theorem Rt.none {i r : Nat} (h : Rt [] i r) : False := by have := h.lt; simp at this
theorem Holds.none : Holds [] CS0 := by
  refine ⟨rfl, ⟨⟨⟨.empty, ⟨rfl, fun _ => 0, ⟨by simp [CS0], by simp [CS0]⟩⟩, rfl, rfl, by simp [CS0], by simp [CS0], by simp [CS0]⟩, by simp, fun i k hik => ?_, by simp, by simp [eqF, nat2], ?_, ?_⟩, .empty⟩⟩
  · rcases hik with rfl | ⟨t, h, _⟩
    · exact .refl _
    · exact (Rt.none h).elim
  · intro r i x c ps h1 h2 h3
    exact (Rt.none h3).elim
  · intro r x h1
    exact (Rt.none h1).elim
end Go.Proofs.Ytjjjckjebkmnjaa
namespace Go.Proofs.Ytjjjckjebkmnjaa
open Go Go.RowKit
set_option maxRecDepth 100000
set_option maxHeartbeats 4000000
set_option linter.unusedSimpArgs false
set_option linter.unusedVariables false
attribute [local irreducible] aops dRun
theorem vGet (V : List (Int × Int)) (n : Int) : ((vfind V n).map fun i => AV.v (.int .i64 i)).getD (.v (.int .i64 0)) = .v (.int .i64 ((vfind V n).getD 0)) := by cases vfind V n <;> rfl
theorem vIs (V : List (Int × Int)) (n : Int) : ((vfind V n).map fun i => AV.v (.int .i64 i)).isSome = (vfind V n).isSome := by cases vfind V n <;> rfl
def nodeG (S : CS) (n : Int) : Int × Bool := if S.clash = true then (0, false) else ((vfind S.G.V n).getD 0, (vfind S.G.V n).isSome)
theorem nodeG_of {S : CS} {n k : Int} (h : S.clash = false) (hv : vfind S.G.V n = some k) : nodeG S n = (k, true) := by
  unfold nodeG
  rw [h, hv]; rfl
theorem GVar_calls (G : GS) (n : Int) : GCalls 66 [.ptr 0 0, .v (.int .i64 n)] (G.N) (G.V) (.tup [.v (.int .i64 ((vfind G.V n).getD 0)), .v (.bool (vfind G.V n).isSome)]) (G.N) (G.V) := by
  refine ACalls.clean (C := fun r os => r = _ ∧ os = _) ?_
  refine ACalls_intro Try.func66 (by kernel_rfl) rfl (by rw [Try.ntmps66]; simp) (fun hm => ?_)
  simp only [Try.ntmps66, Try.results66, List.length_cons, List.length_nil, Nat.reduceAdd, Nat.reduceSub, List.replicate_succ, List.replicate_zero, List.cons_append, List.nil_append]
  simp only [gObs, enumO, Nat.reduceAdd]
  refine AWp_seqK fun Y0 y0 => ?_
  refine AWp_region ?_
  refine aops_chunk 1 fun Q0 q0 => ?_
  simp only [↓bO, go_sem, seval, aFind_vC, vGet, vIs]
  refine q0 _ ?_
  clear q0 Q0
  simp only [go_sem]
  simp only [↓bO, go_sem, seval, aFind_vC, vGet, vIs]
  refine y0 _ ?_
  try clear y0 Y0
  refine AWp_seqK fun Y0 y0 => ?_
  refine AWp_seqK fun Y1 y1 => ?_
  refine AWp_region ?_
  refine aops_chunk 1 fun Q0 q0 => ?_
  simp only [↓bO, go_sem, seval, aFind_vC, vGet, vIs]
  refine q0 _ ?_
  clear q0 Q0
  simp only [go_sem]
  simp only [↓bO, go_sem, seval, aFind_vC, vGet, vIs]
  refine y1 _ ?_
  try clear y1 Y1
  refine AWp_cond rfl (fun hb9 => ?_) (fun hb9 => ?_)
  ·
   cases hb9
  ·
   refine AWp_skip ?_
   try simp only [thenQ, blockQ, noGotoQ]
   refine y0 _ ?_
   try clear y0 Y0
   refine AWp_seqK fun Y0 y0 => ?_
   refine AWp_region ?_
   iterate 10 (refine aops_chunk 1 fun Q0 q0 => ?_; simp only [↓bO, go_sem, seval, aFind_vC, vGet, vIs]; refine q0 _ ?_; clear q0 Q0; simp only [go_sem])
   simp only [↓bO, go_sem, seval, aFind_vC, vGet, vIs]
   refine y0 _ ?_
   try clear y0 Y0
   refine AWp_seqK fun Y0 y0 => ?_
   refine AWp_region ?_
   iterate 3 (refine aops_chunk 1 fun Q0 q0 => ?_; simp only [↓bO, go_sem, seval, aFind_vC, vGet, vIs]; refine q0 _ ?_; clear q0 Q0; simp only [go_sem])
   simp only [↓bO, go_sem, seval, aFind_vC, vGet, vIs]
   refine y0 _ ?_
   try clear y0 Y0
   refine AWp_ret ?_
   try simp only [thenQ, blockQ, noGotoQ, retQ, aRes, tupOf, bS, bA]
   refine ⟨_, enumO 0 (gObs (G.N) (G.V)), ⟨rfl, rfl⟩, .tup ⟨.v _ _, .v _ _, trivial⟩, gUnd (by omega) _ _, ?_, ?_, by omega⟩
   ·
    refine Le.of_eq ?_
    rfl
   · first | (refine ⟨0, ?_, rfl⟩; first | rfl | (simp only [gObs, enumO, List.drop_succ_cons, List.drop_zero, List.map_append, List.map_cons, List.map_nil, List.length_append, List.length_cons, List.length_nil, GNode.cells, List.take_length, Nat.reduceAdd, Nat.zero_add]; done))
theorem node_c (S : CS) (n : Int) : CCalls (σ := Int × Bool) 59 [.ptr 0 0, .v (.int .i64 n)] (S) (fun s => s.1 = S ∧ s.2 = nodeG S n) (fun s => .tup [.v (.int .i64 s.1), .v (.bool s.2)]) := by
  refine ACalls.clean (C := fun r os => ∃ s : CS × Int × Bool, (s.1 = S ∧ s.2 = nodeG S n) ∧ r = (fun s : Int × Bool => .tup [.v (.int .i64 s.1), .v (.bool s.2)]) s.2 ∧ os = enumO 0 (cObs s.1)) ?_
  refine ACalls_intro Try.func59 (by kernel_rfl) rfl (by rw [Try.ntmps59]; simp) (fun hm => ?_)
  simp only [Try.ntmps59, Try.results59, List.length_cons, List.length_nil, Nat.reduceAdd, Nat.reduceSub, List.replicate_succ, List.replicate_zero, List.cons_append, List.nil_append]
  simp only [cObs, enumO, Nat.reduceAdd]
  refine AWp_seqK fun Y0 y0 => ?_
  refine AWp_region ?_
  simp only [↓bO, go_sem, seval]
  refine y0 _ ?_
  try clear y0 Y0
  refine AWp_seqK fun Y0 y0 => ?_
  refine AWp_seqK fun Y1 y1 => ?_
  refine AWp_region ?_
  refine aops_chunk 1 fun Q0 q0 => ?_
  simp only [↓bO, go_sem, seval]
  refine q0 _ ?_
  clear q0 Q0
  simp only [go_sem]
  refine aops_chunk 1 fun Q0 q0 => ?_
  simp only [↓bO, go_sem, seval]
  refine CCalls.at (Err_c S) (.nil) (fun _ => .v _) (i0 := 0) (i1 := 1) (i2 := 2) (i3 := 3) (i4 := 4) (i5 := 5) (i6 := 6) (i7 := 7) (by decide) (by simp) ⟨rfl, rfl, rfl, rfl, rfl, rfl, rfl, rfl, trivial⟩ (fun Z9 u9 hZ9 => ?_)
  try dsimp only at hZ9
  simp only [cObsAt, List.zip_cons_cons, List.zip_nil_left, List.zip_nil_right, putsO, putO, Nat.reduceEqDiff, ↓reduceIte]
  obtain rfl : S = Z9 := hZ9.symm
  try simp only [bS, bA, thenQ, blockQ, noGotoQ]
  refine q0 _ ?_
  clear q0 Q0
  simp only [go_sem]
  simp only [↓bO, go_sem, seval]
  refine y1 _ ?_
  try clear y1 Y1
  refine AWp_cond rfl (fun hb8 => ?_) (fun hb8 => ?_)
  ·
   have hcs : S.clash = true := by (have h9 := hb8; cases hc : S.clash <;> simp [hc] at h9 ⊢)
   refine AWp_seqK fun Y1 y1 => ?_
   refine AWp_region ?_
   simp only [↓bO, go_sem, seval]
   refine y1 _ ?_
   try clear y1 Y1
   refine AWp_ret ?_
   try simp only [thenQ, blockQ, noGotoQ, retQ, aRes, tupOf, bS, bA]
   refine ⟨_, enumO 0 (cObs (S)), ⟨(S, (0, false)), ?_, rfl, rfl⟩, .tup ⟨.v _ _, .v _ _, trivial⟩, cUnd (by omega) _, ?_, ?_, by omega⟩
   · exact ⟨rfl, by rw [nodeG, hcs]; rfl⟩
   ·
    exact Le.refl _
   · first | (refine ⟨0, rfl, rfl⟩) | (refine ⟨0, by simp only [cObs, enumO, List.drop_zero, List.drop_succ_cons, Nat.reduceAdd], rfl⟩)
  ·
   have hcs : S.clash = false := by (have h9 := hb8; cases hc : S.clash <;> simp [hc] at h9 ⊢)
   refine AWp_skip ?_
   try simp only [thenQ, blockQ, noGotoQ]
   refine y0 _ ?_
   try clear y0 Y0
   refine AWp_seqK fun Y0 y0 => ?_
   refine AWp_region ?_
   refine aops_chunk 4 fun Q0 q0 => ?_
   iterate 2 (simp only [↓bO, go_sem, seval]; refine q0 _ ?_; clear q0 Q0; simp only [go_sem]; refine aops_chunk 1 fun Q0 q0 => ?_)
   simp only [↓bO, go_sem, seval]
   refine GCalls.at (GVar_calls S.G n) (.cons (.v _) .nil) (.tup (.cons (.v _) (.cons (.v _) .nil))) (i := 1) (j := 2) (k := 3) rfl rfl rfl (by decide) (by decide) (by decide) (by first | omega | (simp only; omega)) (by first | omega | (simp only; omega)) (by first | omega | (simp only; omega)) ?_
   simp only [putO, Nat.reduceEqDiff, ↓reduceIte]
   try simp only [bS, bA, thenQ, blockQ, noGotoQ]
   refine q0 _ ?_
   clear q0 Q0
   simp only [go_sem]
   simp only [↓bO, go_sem, seval]
   refine y0 _ ?_
   try clear y0 Y0
   refine AWp_ret ?_
   try simp only [thenQ, blockQ, noGotoQ, retQ, aRes, tupOf, bS, bA]
   refine ⟨_, enumO 0 (cObs (S)), ⟨(S, ((vfind S.G.V n).getD 0, (vfind S.G.V n).isSome)), ?_, rfl, rfl⟩, .tup ⟨.v _ _, .v _ _, trivial⟩, cUnd (by omega) _, ?_, ?_, by omega⟩
   · exact ⟨rfl, by rw [nodeG, hcs]; rfl⟩
   ·
    exact Le.refl _
   · first | (refine ⟨0, rfl, rfl⟩) | (refine ⟨0, by simp only [cObs, enumO, List.drop_zero, List.drop_succ_cons, Nat.reduceAdd], rfl⟩)
theorem PKind_c (S : CS) (hw : ∀ w ∈ S.W, w = -1 ∨ (0 ≤ w ∧ w < (S.G.N.length : Int))) (r : Nat) (x : Int) (hx : S.W[r]? = some x) : ACalls Try.prog 35 [.agg [.ptr 0 0, .v (.int .i64 (r : Int))]] (enumO 0 (cObs S)) 8 fun z os n => (∃ s : CS × Int, (s.1 = S ∧ ((x < 0 ∧ s.2 = 0) ∨ (0 ≤ x ∧ ∃ g, S.G.N[x.toNat]? = some g ∧ s.2 = g.k))) ∧ z = (fun s : Int => .v (.int .i64 s)) s.2 ∧ os = enumO 0 (cObs s.1)) ∧ n = 8 := by
  refine ACalls.clean (C := fun z os => ∃ s : CS × Int, (s.1 = S ∧ ((x < 0 ∧ s.2 = 0) ∨ (0 ≤ x ∧ ∃ g, S.G.N[x.toNat]? = some g ∧ s.2 = g.k))) ∧ z = (fun s : Int => .v (.int .i64 s)) s.2 ∧ os = enumO 0 (cObs s.1)) ?_
  refine ACalls_intro Try.func35 (by kernel_rfl) rfl (by rw [Try.ntmps35]; simp) (fun hm => ?_)
  simp only [Try.ntmps35, Try.results35, List.length_cons, List.length_nil, Nat.reduceAdd, Nat.reduceSub, List.replicate_succ, List.replicate_zero, List.cons_append, List.nil_append]
  simp only [cObs, enumO, Nat.reduceAdd]
  have hrl := (List.getElem?_eq_some_iff.1 hx).1
  have hwx := hw x (List.mem_of_getElem? hx)
  refine AWp_seqK fun Y0 y0 => ?_
  refine AWp_region ?_
  refine aops_chunk 1 fun Q0 q0 => ?_
  simp only [↓bO, go_sem, seval, hrl, gM hx, intC]
  refine q0 _ ?_
  clear q0 Q0
  simp only [go_sem]
  simp only [↓bO, go_sem, seval, hrl, gM hx, intC]
  refine y0 _ ?_
  try clear y0 Y0
  refine AWp_seqK fun Y0 y0 => ?_
  refine AWp_seqK fun Y1 y1 => ?_
  refine AWp_drawK 15 mixed (by kernel_rfl) fun J0 j0 => ?_
  iterate 4 (simp only [go_sem]; refine dRun_chunk 1 fun Q0 q0 => ?_; simp only [↓dRun, ↓dOp, ↓bO, go_sem, seval, hrl, gM hx, intC]; refine q0 _ ?_; clear q0 Q0)
  simp only [go_sem]
  refine dRun_case 6 rfl (fun hc6 => ?_) (fun hc6 => ?_)
  ·
   simp only [List.set_cons_zero, List.set_cons_succ]
   cases hc6
  ·
   simp only [List.set_cons_zero, List.set_cons_succ]
   iterate 10 (refine dRun_chunk 1 fun Q0 q0 => ?_; simp only [↓dRun, ↓dOp, ↓bO, go_sem, seval, hrl, gM hx, intC]; refine q0 _ ?_; clear q0 Q0; simp only [go_sem])
   simp only [↓dRun, ↓dOp, ↓bO, go_sem, seval, hrl, gM hx, intC]
   refine j0 _ ?_
   clear j0 J0
   simp only [bL, aops, thenQ, blockQ, noGotoQ]
   refine y1 _ ?_
   try clear y1 Y1
   refine AWp_cond rfl (fun hb17 => ?_) (fun hb17 => ?_)
   ·
    have hneg : x < 0 := by simpa using hb17
    refine AWp_seqK fun Y1 y1 => ?_
    refine AWp_region ?_
    simp only [↓bO, go_sem, seval, hrl, gM hx, intC]
    refine y1 _ ?_
    try clear y1 Y1
    refine AWp_ret ?_
    try simp only [thenQ, blockQ, noGotoQ, retQ, aRes, tupOf, bS, bA]
    refine ⟨_, enumO 0 (cObs (S)), ⟨(S, (0 : Int)), ?_, rfl, rfl⟩, .v _ _, cUnd (by omega) _, ?_, ?_, by omega⟩
    · exact ⟨rfl, .inl ⟨hneg, rfl⟩⟩
    ·
     exact Le.refl _
    · first | (refine ⟨1, rfl, rfl⟩) | (refine ⟨0, rfl, rfl⟩) | (refine ⟨1, by simp only [cObs, enumO, List.drop_zero, List.drop_succ_cons, Nat.reduceAdd], rfl⟩) | (refine ⟨0, by simp only [cObs, enumO, List.drop_zero, List.drop_succ_cons, Nat.reduceAdd], rfl⟩)
   ·
    have hpos : 0 ≤ x := by simpa using hb17
    obtain ⟨g, hg⟩ : ∃ g, S.G.N[x.toNat]? = some g := ⟨_, List.getElem?_eq_getElem (by omega)⟩
    refine AWp_skip ?_
    try simp only [thenQ, blockQ, noGotoQ]
    refine y0 _ ?_
    try clear y0 Y0
    refine AWp_seqK fun Y0 y0 => ?_
    refine AWp_drawK 14 mixed (by kernel_rfl) fun J0 j0 => ?_
    iterate 13 (simp only [go_sem]; refine dRun_chunk 1 fun Q0 q0 => ?_; simp only [↓dRun, ↓dOp, ↓bO, go_sem, seval, hrl, gM hx, intC]; refine q0 _ ?_; clear q0 Q0)
    simp only [go_sem]
    simp only [↓dRun, ↓dOp, ↓bO, go_sem, seval, hrl, gM hx, intC]
    refine j0 _ ?_
    clear j0 J0
    simp only [go_sem]
    refine aops_chunk 1 fun Q0 q0 => ?_
    simp only [↓bO, go_sem, seval, hrl, gM hx, intC]
    refine GCalls.at (Kind_calls S.G x g hpos hg) (.cons (.v _) .nil) (.v _) (i := 1) (j := 2) (k := 3) rfl rfl rfl (by decide) (by decide) (by decide) (by first | omega | (simp only; omega)) (by first | omega | (simp only; omega)) (by first | omega | (simp only; omega)) ?_
    simp only [putO, Nat.reduceEqDiff, ↓reduceIte]
    try simp only [bS, bA, thenQ, blockQ, noGotoQ]
    refine q0 _ ?_
    clear q0 Q0
    simp only [go_sem]
    simp only [↓bO, go_sem, seval, hrl, gM hx, intC]
    refine y0 _ ?_
    try clear y0 Y0
    refine AWp_ret ?_
    try simp only [thenQ, blockQ, noGotoQ, retQ, aRes, tupOf, bS, bA]
    refine ⟨_, enumO 0 (cObs (S)), ⟨(S, g.k), ?_, rfl, rfl⟩, .v _ _, cUnd (by omega) _, ?_, ?_, by omega⟩
    · exact ⟨rfl, .inr ⟨hpos, g, hg, rfl⟩⟩
    ·
     exact Le.refl _
    · first | (refine ⟨1, rfl, rfl⟩) | (refine ⟨0, rfl, rfl⟩) | (refine ⟨1, by simp only [cObs, enumO, List.drop_zero, List.drop_succ_cons, Nat.reduceAdd], rfl⟩) | (refine ⟨0, by simp only [cObs, enumO, List.drop_zero, List.drop_succ_cons, Nat.reduceAdd], rfl⟩)
end Go.Proofs.Ytjjjckjebkmnjaa
