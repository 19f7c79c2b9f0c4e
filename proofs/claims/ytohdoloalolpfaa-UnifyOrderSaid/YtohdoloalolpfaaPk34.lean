/- Texts of the abstract walk, of the contracts and of the plain laws, packed (part 34 of 45): Gr6 Un6 Un7 Un8. Conditions: none. -/
import Derived.Test.YtohdoloalolpfaaPk33
namespace Go.Proofs.Ytohdoloalolpfaa
open Go Go.RowKit
set_option maxRecDepth 100000
set_option maxHeartbeats 1000000
set_option linter.unusedSimpArgs false
set_option linter.unusedVariables false
attribute [local irreducible] aops dRun
theorem New_calls : ACalls Try.prog 48 [] [] 0 fun r os n => (r = .ptr 1 0 ∧ os = [(1, .cells 91 [.v (.slice none 0 0), .map 0]), (0, .map [])]) ∧ n = 2 := by
 refine ACalls.cleanN (n := 2) (C := fun r os => r = _ ∧ os = _) (by omega) ?_
 refine ACalls_intro Try.func48 (by kernel_rfl) rfl (by rw [Try.ntmps48]; simp) (fun hm => ?_)
 simp only [Try.ntmps48, Try.results48, List.length_cons, List.length_nil, Nat.reduceAdd, Nat.reduceSub, List.replicate_succ, List.replicate_zero, List.cons_append, List.nil_append]
 refine AWp_seqK fun K1 hK1 => ?_
 refine AWp_region ?_
 simp only [↓bO, bS, bA, bF, ↓reduceIte, Nat.reduceEqDiff, reduceCtorEq]
 refine hK1 _ ?_; try clear hK1 K1
 refine AWp_seqK fun K2 hK2 => ?_
 refine AWp_region ?_
 simp only [↓bO, bS, bA, bF, ↓reduceIte, Nat.reduceEqDiff, reduceCtorEq, aBuild, zc91, pc91, aFill, splice, bL, Nat.reduceAdd, Nat.reduceLeDiff]
 refine hK2 _ ?_; try clear hK2 K2
 refine AWp_ret ?_
 try simp only [bF, retQ, aRes, tupOf, bS, bA]
 refine ⟨_, _, ⟨rfl, rfl⟩, .ptr (by omega), ⟨by omega, ⟨.v _ _, .map (by omega), trivial⟩, by omega, (by intro p hp; cases hp), trivial⟩, Le.refl _, ⟨0, rfl, rfl⟩, by omega⟩
end Go.Proofs.Ytohdoloalolpfaa
namespace Go.Proofs.Ytohdoloalolpfaa
open Go Go.RowKit
set_option maxRecDepth 100000
set_option maxHeartbeats 1000000
set_option linter.unusedSimpArgs false
set_option linter.unusedVariables false
attribute [local irreducible] aops dRun
theorem Err_c (S : CS) : CCalls (σ := Unit) 42 [.ptr 0 0] (S) (fun s => s.1 = S) (fun s => .v (.int .i64 (if S.clash then 7 else 0))) := by
 refine ACalls.clean (C := fun r os => ∃ s : CS × Unit, (s.1 = S) ∧ r = (fun s : Unit => .v (.int .i64 (if S.clash then 7 else 0))) s.2 ∧ os = enumO 0 (cObs s.1)) ?_
 refine ACalls_intro Try.func42 (by kernel_rfl) rfl (by rw [Try.ntmps42]; simp) (fun hm => ?_)
 simp only [Try.ntmps42, Try.results42, List.length_cons, List.length_nil, Nat.reduceAdd, Nat.reduceSub, List.replicate_succ, List.replicate_zero, List.cons_append, List.nil_append]
 simp only [cObs, enumO, Nat.reduceAdd]
 refine AWp_seqK fun K1 hK1 => ?_
 refine AWp_region ?_
 simp only [↓bO, bS, bA, bF, ↓reduceIte, Nat.reduceEqDiff, reduceCtorEq]
 refine hK1 _ ?_; try clear hK1 K1
 refine AWp_seqK fun K2 hK2 => ?_
 refine AWp_block ?_
 refine AWp_seqK fun K3 hK3 => ?_
 refine AWp_region ?_
 simp only [↓bO, bS, bA, bF, ↓reduceIte, Nat.reduceEqDiff, reduceCtorEq, aBin, pt67]
 refine hK3 _ ?_; try clear hK3 K3
 refine AWp_cond rfl (fun hb3 => ?_) (fun hb3 => ?_)
 ·
  cases hb3
 ·
  refine AWp_seqK fun K4 hK4 => ?_
  refine AWp_region ?_
  refine aops_chunk 4 fun C5 hC5 => ?_
  simp only [bL, ↓bO, bS, bA, bF, ↓reduceIte, Nat.reduceEqDiff, reduceCtorEq, aField, fo119_4, Nat.reduceAdd, aLoad, ti4, getO, pack, Nat.reduceLeDiff]
  refine hC5 _ ?_; clear hC5 C5
  simp only [bL]
  simp only [↓bO, bS, bA, bF, ↓reduceIte, Nat.reduceEqDiff, reduceCtorEq]
  refine hK4 _ ?_; try clear hK4 K4
  refine AWp_cond rfl (fun hb6 => ?_) (fun hb6 => ?_)
  ·
   refine AWp_seqK fun K6 hK6 => ?_
   refine AWp_region ?_
   simp only [↓bO, bS, bA, bF, ↓reduceIte, Nat.reduceEqDiff, reduceCtorEq]
   refine hK6 _ ?_; try clear hK6 K6
   refine AWp_ret ?_
   try simp only [bF, retQ, aRes, tupOf, bS, bA]
   refine ⟨_, enumO 0 (cObs (S)), ⟨(S, ()), ?_, rfl, rfl⟩, .v _ _, cUnd (by omega) _, ?_, ?_, by omega⟩
   · rfl
   ·
    rw [show S.clash = true from hb6]; exact Le.refl _
   · first | (refine ⟨0, rfl, rfl⟩) | (refine ⟨0, by simp only [cObs, enumO, List.drop_zero, List.drop_succ_cons, Nat.reduceAdd], rfl⟩)
  ·
   refine AWp_skip ?_
   try simp only [bF]
   refine hK2 _ ?_; try clear hK2 K2
   refine AWp_seqK fun K7 hK7 => ?_
   refine AWp_region ?_
   simp only [↓bO, bS, bA, bF, ↓reduceIte, Nat.reduceEqDiff, reduceCtorEq]
   refine hK7 _ ?_; try clear hK7 K7
   refine AWp_ret ?_
   try simp only [bF, retQ, aRes, tupOf, bS, bA]
   refine ⟨_, enumO 0 (cObs (S)), ⟨(S, ()), ?_, rfl, rfl⟩, .v _ _, cUnd (by omega) _, ?_, ?_, by omega⟩
   · rfl
   ·
    rw [show S.clash = false from hb6]; exact Le.refl _
   · first | (refine ⟨0, rfl, rfl⟩) | (refine ⟨0, by simp only [cObs, enumO, List.drop_zero, List.drop_succ_cons, Nat.reduceAdd], rfl⟩)
theorem UNew_calls : ACalls Try.prog 72 [.v (.int .i64 0)] [] 0 fun r os n => (r = .tup [.ptr 0 0, .v (.int .i64 0)] ∧ os = [(0, .cells 137 [.v (.slice none 0 0), .v (.slice none 0 0), .v (.int .i64 0), .v (.int .i64 0)])]) ∧ n = 1 := by
 refine ACalls.cleanN (n := 1) (C := fun r os => r = _ ∧ os = _) (by omega) ?_
 refine ACalls_intro Try.func72 (by kernel_rfl) rfl (by rw [Try.ntmps72]; simp) (fun hm => ?_)
 simp only [Try.ntmps72, Try.results72, List.length_cons, List.length_nil, Nat.reduceAdd, Nat.reduceSub, List.replicate_succ, List.replicate_zero, List.cons_append, List.nil_append]
 refine AWp_seqK fun K1 hK1 => ?_
 refine AWp_region ?_
 simp only [↓bO, bS, bA, bF, ↓reduceIte, Nat.reduceEqDiff, reduceCtorEq]
 refine hK1 _ ?_; try clear hK1 K1
 refine AWp_seqK fun K2 hK2 => ?_
 refine AWp_seqK fun K3 hK3 => ?_
 refine AWp_region ?_
 refine aops_chunk 3 fun C4 hC4 => ?_
 simp only [bL, ↓bO, bS, bA, bF, ↓reduceIte, Nat.reduceEqDiff, reduceCtorEq, aBin]
 refine hC4 _ ?_; clear hC4 C4
 simp only [bL]
 refine aops_case 7 rfl (fun hc7 => ?_) (fun hc7 => ?_)
 ·
  simp only [List.set_cons_zero, List.set_cons_succ]
  cases hc7
 ·
  simp only [List.set_cons_zero, List.set_cons_succ]
  simp only [↓bO, bS, bA, bF, ↓reduceIte, Nat.reduceEqDiff, reduceCtorEq, bL, undef, aBin, aBool]
  refine hK3 _ ?_; try clear hK3 K3
  refine AWp_cond rfl (fun hb10 => ?_) (fun hb10 => ?_)
  ·
   cases hb10
  ·
   refine AWp_skip ?_
   try simp only [bF]
   refine hK2 _ ?_; try clear hK2 K2
   refine AWp_seqK fun K5 hK5 => ?_
   refine AWp_region ?_
   simp only [↓bO, bS, bA, bF, ↓reduceIte, Nat.reduceEqDiff, reduceCtorEq, aBuild, zc137, pc137, aFill, splice, bL, Nat.reduceAdd, Nat.reduceLeDiff]
   refine hK5 _ ?_; try clear hK5 K5
   refine AWp_seqK fun K6 hK6 => ?_
   refine AWp_seqK fun K7 hK7 => ?_
   refine AWp_region ?_
   simp only [↓bO, bS, bA, bF, ↓reduceIte, Nat.reduceEqDiff, reduceCtorEq]
   refine hK7 _ ?_; try clear hK7 K7
   refine AWp_block ?_
   refine AWp_loopM (σ := Unit) [false, false, false, false, true, false, false, false, false, false, false, false, false, true, true, false, false, false, false, false] (fun s => True) (fun s => [(14, .v (.int .i64 0))]) (fun s => []) (fun s => 0) () (trivial) ?_ (fun s hs => ?_)
   ·
    simp only [maskL, setsL, putsO, putO, bA, Nat.reduceEqDiff, ↓reduceIte]
    exact Weak.mk (by simp only [LeL, Le.refl, Le.any, Le.slNil, and_self, Int.natCast_add, Int.cast_ofNat_Int, Int.natCast_one]) (fun _ _ h => h) rfl rfl
   simp only [maskL, setsL, putsO, putO, bA, Nat.reduceEqDiff, ↓reduceIte]
   refine AWp_seqK fun K8 hK8 => ?_
   refine AWp_region ?_
   simp only [↓bO, bS, bA, bF, ↓reduceIte, Nat.reduceEqDiff, reduceCtorEq, aBin]
   refine hK8 _ ?_; try clear hK8 K8
   refine AWp_seqK fun K9 hK9 => ?_
   refine AWp_cond rfl (fun hb15 => ?_) (fun hb15 => ?_)
   ·
    cases hb15
   ·
    refine AWp_exit ?_
    simp only [bF, bA, Nat.reduceEqDiff, ↓reduceIte]
    refine hK6 _ ?_; try clear hK6 K6
    refine AWp_seqK fun K10 hK10 => ?_
    refine AWp_region ?_
    simp only [↓bO, bS, bA, bF, ↓reduceIte, Nat.reduceEqDiff, reduceCtorEq]
    refine hK10 _ ?_; try clear hK10 K10
    refine AWp_ret ?_
    try simp only [bF, retQ, aRes, tupOf, bS, bA]
    refine ⟨_, _, ⟨rfl, rfl⟩, .tup ⟨.ptr (by omega), .v _ _, trivial⟩, ⟨by omega, ⟨.v _ _, .v _ _, .v _ _, .v _ _, trivial⟩, trivial⟩, Le.refl _, ⟨0, rfl, rfl⟩, by omega⟩
def newOs (a b c d : Nat) : Os := [(d, .cells 119 [.v (.int .i64 0), .ptr c 0, .ptr a 0, .v (.slice none 0 0), .v (.bool false)]), (c, .cells 91 [.v (.slice none 0 0), .map b]), (b, .map []), (a, .cells 137 [.v (.slice none 0 0), .v (.slice none 0 0), .v (.int .i64 0), .v (.int .i64 0)])]
theorem VNew_calls : ACalls Try.prog 40 [] [] 0 fun r os n => (r = .ptr 3 0 ∧ os = newOs 0 1 2 3) ∧ n = 4 := by
 refine ACalls.cleanN (n := 4) (C := fun r os => r = _ ∧ os = _) (by omega) ?_
 refine ACalls_intro Try.func40 (by kernel_rfl) rfl (by rw [Try.ntmps40]; simp) (fun hm => ?_)
 simp only [Try.ntmps40, Try.results40, List.length_cons, List.length_nil, Nat.reduceAdd, Nat.reduceSub, List.replicate_succ, List.replicate_zero, List.cons_append, List.nil_append]
 refine AWp_seqK fun K1 hK1 => ?_
 refine AWp_region ?_
 simp only [↓bO, bS, bA, bF, ↓reduceIte, Nat.reduceEqDiff, reduceCtorEq]
 refine hK1 _ ?_; try clear hK1 K1
 refine AWp_seqK fun K2 hK2 => ?_
 refine AWp_region ?_
 refine aops_chunk 1 fun C3 hC3 => ?_
 simp only [bL, ↓bO, bS, bA, bF, ↓reduceIte, Nat.reduceEqDiff, reduceCtorEq, aCallV]
 refine UNew_calls.mono ?_
 rintro r os' nx' ⟨⟨rfl, rfl⟩, rfl⟩
 try simp only [bS, bA, bF]
 refine hC3 _ ?_; clear hC3 C3
 simp only [bL]
 refine aops_chunk 4 fun C4 hC4 => ?_
 simp only [bL, ↓bO, bS, bA, bF, ↓reduceIte, Nat.reduceEqDiff, reduceCtorEq, aExtract, Nat.reduceAdd, Nat.reduceLT, Nat.zero_lt_succ]
 refine hC4 _ ?_; clear hC4 C4
 simp only [bL]
 simp only [↓bO, bS, bA, bF, ↓reduceIte, Nat.reduceEqDiff, reduceCtorEq]
 refine hK2 _ ?_; try clear hK2 K2
 refine AWp_seqK fun K5 hK5 => ?_
 refine AWp_region ?_
 refine aops_chunk 1 fun C6 hC6 => ?_
 simp only [bL, ↓bO, bS, bA, bF, ↓reduceIte, Nat.reduceEqDiff, reduceCtorEq, aCallV]
 refine ACalls.fresh (R' := .ptr 2 0) (os1' := [(2, .cells 91 [.v (.slice none 0 0), .map 1]), (1, .map [])]) New_calls .nil (.ptr rfl) (by decide) ⟨rfl, .cells ⟨.v _, .map rfl, trivial⟩, rfl, .map (by intro p hp; cases hp), trivial⟩ ?_
 simp only [List.cons_append, List.nil_append]
 try simp only [bS, bA, bF]
 refine hC6 _ ?_; clear hC6 C6
 simp only [bL]
 simp only [↓bO, bS, bA, bF, ↓reduceIte, Nat.reduceEqDiff, reduceCtorEq, aBuild, zc119, pc119, aFill, splice, bL, Nat.reduceAdd, Nat.reduceLeDiff]
 refine hK5 _ ?_; try clear hK5 K5
 refine AWp_ret ?_
 try simp only [bF, retQ, aRes, tupOf, bS, bA]
 refine ⟨_, _, ⟨rfl, rfl⟩, .ptr (by omega), ⟨by omega, ⟨.v _ _, .ptr (by omega), .ptr (by omega), .v _ _, .v _ _, trivial⟩, by omega, ⟨.v _ _, .map (by omega), trivial⟩, by omega, (by intro p hp; cases hp), by omega, ⟨.v _ _, .v _ _, .v _ _, .v _ _, trivial⟩, trivial⟩, Le.refl _, ⟨0, rfl, rfl⟩, by omega⟩
end Go.Proofs.Ytohdoloalolpfaa
namespace Go.Proofs.Ytohdoloalolpfaa
open Go Go.RowKit
set_option maxRecDepth 100000
set_option maxHeartbeats 1000000
set_option linter.unusedSimpArgs false
set_option linter.unusedVariables false
attribute [local irreducible] aops dRun
theorem pC_rows (l : List (Int × Int)) : ∀ x ∈ l.map pC, DataL x := fun x hx => by
  obtain ⟨p, _, rfl⟩ := List.mem_map.1 hx
  exact .cons (.v _) (.cons (.v _) .nil)
theorem pC_all (l : List (Int × Int)) : ((l.map pC).all fun y => y.all AV.one) = true := by
  simp [pC, AV.one, Value.oneCell']
theorem snoc_of {α : Type} {l : List α} (h : 0 < l.length) : ∃ w p, l = w ++ [p] := by
  rcases List.eq_nil_or_concat l with e | ⟨w, p, e⟩
  · rw [e] at h; simp at h
  · exact ⟨w, p, by rw [e, List.concat_eq_append]⟩
theorem pC_app (l m : List (Int × Int)) : l.map pC ++ m.map pC = (l ++ m).map pC := by rw [List.map_append]
theorem nroots_le (up : List Nat) : nroots up ≤ up.length := by
  have h := List.countP_le_length (p := fun i => decide (up[i]? = some i)) (l := List.range up.length)
  rw [List.length_range] at h
  exact h
def EqR (S : CS) (E : List (Nat × Nat)) (m : List RNode) (l u : Ty) (s : CS × Int) : Prop :=
  (S.clash = true ∧ s = (S, 7)) ∨ (S.clash = false ∧ (l.right && u.right) = false ∧ s = (S, 1)) ∨
  (S.clash = false ∧ l.right = true ∧ u.right = true ∧ s.1.G = (u.gadd (l.gadd S.G).1).1 ∧
    ((s.2 = 0 ∧ s.1.clash = false ∧ Good (E ++ [((l.radd m).2.toNat, (u.radd (l.radd m).1).2.toNat)]) (u.radd (l.radd m).1).1 s.1) ∨
     (s.2 = 7 ∧ s.1.clash = true ∧ Clash (shR (u.radd (l.radd m).1).1) (E ++ [((l.radd m).2.toNat, (u.radd (l.radd m).1).2.toNat)]))))
theorem Equate_c (S : CS) (E : List (Nat × Nat)) (m : List RNode) (l u : Ty) (h : S.clash = false → Good E m S) (hl : S.G.N.length + l.cnt + u.cnt ≤ 1048576) (hcl : l.cnt ≤ 400) (hcr : u.cnt ≤ 400) : CCalls (σ := Int) 41 [.ptr 0 0, .agg l.cells, .agg u.cells] (S) (fun s => EqR S E m l u s) (fun s => .v (.int .i64 s)) := by
 refine ACalls.clean (C := fun r os => ∃ s : CS × Int, (EqR S E m l u s) ∧ r = (fun s : Int => .v (.int .i64 s)) s.2 ∧ os = enumO 0 (cObs s.1)) ?_
 refine ACalls_intro Try.func41 (by kernel_rfl) rfl (by rw [Try.ntmps41]; simp) (fun hm => ?_)
 simp only [Try.ntmps41, Try.results41, List.length_cons, List.length_nil, Nat.reduceAdd, Nat.reduceSub, List.replicate_succ, List.replicate_zero, List.cons_append, List.nil_append]
 simp only [cObs, enumO, Nat.reduceAdd]
 simp only [Ty.cells_eq l, Ty.cells_eq u, List.cons_append, List.nil_append]
 refine AWp_seqK fun K1 hK1 => ?_
 refine AWp_region ?_
 refine aops_chunk 2 fun C2 hC2 => ?_
 simp only [bL, ↓bO, bS, bA, bF, ↓reduceIte, Nat.reduceEqDiff, reduceCtorEq, List.length_map, Nat.reduceAdd, Nat.reduceLeDiff, Int.toNat_natCast, Int.natCast_nonneg, tyX, aReslice, delO, List.filter_cons, List.filter_nil, Nat.reduceBEq]
 refine hC2 _ ?_; clear hC2 C2
 simp only [bL]
 simp only [↓bO, bS, bA, bF, ↓reduceIte, Nat.reduceEqDiff, reduceCtorEq, List.length_map, bL, Nat.reduceAdd, Nat.reduceLeDiff, Int.toNat_natCast, Int.natCast_nonneg, tyX, aReslice, delO, List.filter_cons, List.filter_nil, Nat.reduceBEq]
 refine hK1 _ ?_; try clear hK1 K1
 refine AWp_scope ?_
 refine AWp_seqK fun K3 hK3 => ?_
 refine AWp_block ?_
 refine AWp_seqK fun K4 hK4 => ?_
 refine AWp_region ?_
 refine aops_chunk 2 fun C5 hC5 => ?_
 simp only [bL, ↓bO, bS, bA, bF, ↓reduceIte, Nat.reduceEqDiff, reduceCtorEq, aBin, pt67, List.length_map, Nat.reduceAdd, Nat.reduceLeDiff, Int.toNat_natCast, Int.natCast_nonneg, tyX, aReslice, delO, List.filter_cons, List.filter_nil, Nat.reduceBEq]
 refine hC5 _ ?_; clear hC5 C5
 simp only [bL]
 simp only [↓bO, bS, bA, bF, ↓reduceIte, Nat.reduceEqDiff, reduceCtorEq, List.length_map, bL, Nat.reduceAdd, Nat.reduceLeDiff, Int.toNat_natCast, Int.natCast_nonneg, tyX, aReslice, delO, List.filter_cons, List.filter_nil, Nat.reduceBEq]
 refine hK4 _ ?_; try clear hK4 K4
 refine AWp_cond rfl (fun hb11 => ?_) (fun hb11 => ?_)
 ·
  cases hb11
 ·
  refine AWp_seqK fun K6 hK6 => ?_
  refine AWp_region ?_
  refine aops_chunk 2 fun C7 hC7 => ?_
  simp only [bL, ↓bO, bS, bA, bF, ↓reduceIte, Nat.reduceEqDiff, reduceCtorEq, List.length_map, Nat.reduceAdd, Nat.reduceLeDiff, Int.toNat_natCast, Int.natCast_nonneg, tyX, aReslice, delO, List.filter_cons, List.filter_nil, Nat.reduceBEq]
  refine hC7 _ ?_; clear hC7 C7
  simp only [bL]
  refine aops_chunk 2 fun C8 hC8 => ?_
  simp only [bL, ↓bO, bS, bA, bF, ↓reduceIte, Nat.reduceEqDiff, reduceCtorEq, aField, fo119_4, Nat.reduceAdd, aLoad, ti4, getO, pack, Nat.reduceLeDiff, List.length_map, Int.toNat_natCast, Int.natCast_nonneg, tyX, aReslice, delO, List.filter_cons, List.filter_nil, Nat.reduceBEq]
  refine hC8 _ ?_; clear hC8 C8
  simp only [bL]
  simp only [↓bO, bS, bA, bF, ↓reduceIte, Nat.reduceEqDiff, reduceCtorEq, List.length_map, bL, Nat.reduceAdd, Nat.reduceLeDiff, Int.toNat_natCast, Int.natCast_nonneg, tyX, aReslice, delO, List.filter_cons, List.filter_nil, Nat.reduceBEq]
  refine hK6 _ ?_; try clear hK6 K6
  refine AWp_cond rfl (fun hb14 => ?_) (fun hb14 => ?_)
  ·
   have hcs : S.clash = true := hb14
   refine AWp_seqK fun K9 hK9 => ?_
   refine AWp_region ?_
   simp only [↓bO, bS, bA, bF, ↓reduceIte, Nat.reduceEqDiff, reduceCtorEq, List.length_map, bL, Nat.reduceAdd, Nat.reduceLeDiff, Int.toNat_natCast, Int.natCast_nonneg, tyX, aReslice, delO, List.filter_cons, List.filter_nil, Nat.reduceBEq]
   refine hK9 _ ?_; try clear hK9 K9
   refine AWp_ret ?_
   try simp only [bF, retQ, aRes, tupOf, bS, bA]
   refine ⟨_, enumO 0 (cObs (S)), ⟨(S, 7), ?_, rfl, rfl⟩, .v _ _, cUnd (by omega) _, ?_, ?_, by omega⟩
   · exact .inl ⟨hcs, rfl⟩
   ·
    exact Le.refl _
   · first | (refine ⟨2, rfl, rfl⟩) | (refine ⟨2, by simp only [cObs, enumO, List.drop_zero, List.drop_succ_cons, Nat.reduceAdd], rfl⟩)
  ·
   have hcs : S.clash = false := hb14
   have hG := h hcs
   refine AWp_seqK fun K10 hK10 => ?_
   refine AWp_region ?_
   refine aops_chunk 1 fun C11 hC11 => ?_
   simp only [bL, ↓bO, bS, bA, bF, ↓reduceIte, Nat.reduceEqDiff, reduceCtorEq, aLoad, ti32, getO, pack, Nat.reduceAdd, Nat.reduceLeDiff, List.length_map, Int.toNat_natCast, Int.natCast_nonneg, tyX, aReslice, delO, List.filter_cons, List.filter_nil, Nat.reduceBEq]
   refine hC11 _ ?_; clear hC11 C11
   simp only [bL]
   refine aops_chunk 1 fun C12 hC12 => ?_
   simp only [bL, ↓bO, bS, bA, bF, ↓reduceIte, Nat.reduceEqDiff, reduceCtorEq, aCallV, List.length_map, Nat.reduceAdd, Nat.reduceLeDiff, Int.toNat_natCast, Int.natCast_nonneg, tyX, aReslice, delO, List.filter_cons, List.filter_nil, Nat.reduceBEq]
   refine APure.call (show APure Try.prog 55 [.agg [.v (.int .i64 l.k), .v (.int .i64 l.n), .sl 3 (l.ps.map Ty.cells)]] _ from by rw [Ty.refold]; exact Right_pure l) ?_
   try simp only [bS, bA, bF]
   refine hC12 _ ?_; clear hC12 C12
   simp only [bL]
   refine aops_chunk 2 fun C13 hC13 => ?_
   simp only [bL, ↓bO, bS, bA, bF, ↓reduceIte, Nat.reduceEqDiff, reduceCtorEq, aUn, List.length_map, Nat.reduceAdd, Nat.reduceLeDiff, Int.toNat_natCast, Int.natCast_nonneg, tyX, aReslice, delO, List.filter_cons, List.filter_nil, Nat.reduceBEq]
   refine hC13 _ ?_; clear hC13 C13
   simp only [bL]
   refine aops_case 23 rfl (fun hc23 => ?_) (fun hc23 => ?_)
   ·
    simp only [List.set_cons_zero, List.set_cons_succ]
    have hno : (l.right && u.right) = false := by (have h9 : l.right = false := by simpa using hc23); rw [h9]; rfl
    refine aops_chunk 2 fun C14 hC14 => ?_
    simp only [bL, ↓bO, bS, bA, bF, ↓reduceIte, Nat.reduceEqDiff, reduceCtorEq, undef, aLoad, ti32, getO, pack, Nat.reduceAdd, Nat.reduceLeDiff, aCallV, List.length_map, Int.toNat_natCast, Int.natCast_nonneg, tyX, aReslice, delO, List.filter_cons, List.filter_nil, Nat.reduceBEq]
    refine hC14 _ ?_; clear hC14 C14
    simp only [bL]
    refine aops_chunk 2 fun C15 hC15 => ?_
    simp only [bL, ↓bO, bS, bA, bF, ↓reduceIte, Nat.reduceEqDiff, reduceCtorEq, undef, aUn, aBool, List.length_map, Nat.reduceAdd, Nat.reduceLeDiff, Int.toNat_natCast, Int.natCast_nonneg, tyX, aReslice, delO, List.filter_cons, List.filter_nil, Nat.reduceBEq]
    refine hC15 _ ?_; clear hC15 C15
    simp only [bL]
    simp only [↓bO, bS, bA, bF, ↓reduceIte, Nat.reduceEqDiff, reduceCtorEq, List.length_map, bL, Nat.reduceAdd, Nat.reduceLeDiff, Int.toNat_natCast, Int.natCast_nonneg, tyX, aReslice, delO, List.filter_cons, List.filter_nil, Nat.reduceBEq]
    refine hK10 _ ?_; try clear hK10 K10
    refine AWp_cond (b := true) (by first | exact rfl | exact congrArg (fun b => AV.v (.bool b)) hb19) (fun _ => ?_) (fun h => (by cases h))
    refine AWp_seqK fun K16 hK16 => ?_
    refine AWp_region ?_
    simp only [↓bO, bS, bA, bF, ↓reduceIte, Nat.reduceEqDiff, reduceCtorEq, List.length_map, bL, Nat.reduceAdd, Nat.reduceLeDiff, Int.toNat_natCast, Int.natCast_nonneg, tyX, aReslice, delO, List.filter_cons, List.filter_nil, Nat.reduceBEq]
    refine hK16 _ ?_; try clear hK16 K16
    refine AWp_ret ?_
    try simp only [bF, retQ, aRes, tupOf, bS, bA]
    refine ⟨_, enumO 0 (cObs (S)), ⟨(S, 1), ?_, rfl, rfl⟩, .v _ _, cUnd (by omega) _, ?_, ?_, by omega⟩
    · exact .inr (.inl ⟨hcs, hno, rfl⟩)
    ·
     exact Le.refl _
    · first | (refine ⟨2, rfl, rfl⟩) | (refine ⟨2, by simp only [cObs, enumO, List.drop_zero, List.drop_succ_cons, Nat.reduceAdd], rfl⟩)
   ·
    simp only [List.set_cons_zero, List.set_cons_succ]
    have hlr : l.right = true := by simpa using hc23
    refine aops_chunk 1 fun C17 hC17 => ?_
    simp only [bL, ↓bO, bS, bA, bF, ↓reduceIte, Nat.reduceEqDiff, reduceCtorEq, undef, aLoad, ti32, getO, pack, Nat.reduceAdd, Nat.reduceLeDiff, List.length_map, Int.toNat_natCast, Int.natCast_nonneg, tyX, aReslice, delO, List.filter_cons, List.filter_nil, Nat.reduceBEq]
    refine hC17 _ ?_; clear hC17 C17
    simp only [bL]
    refine aops_chunk 1 fun C18 hC18 => ?_
    simp only [bL, ↓bO, bS, bA, bF, ↓reduceIte, Nat.reduceEqDiff, reduceCtorEq, undef, aCallV, List.length_map, Nat.reduceAdd, Nat.reduceLeDiff, Int.toNat_natCast, Int.natCast_nonneg, tyX, aReslice, delO, List.filter_cons, List.filter_nil, Nat.reduceBEq]
    refine APure.call (show APure Try.prog 55 [.agg [.v (.int .i64 u.k), .v (.int .i64 u.n), .sl 3 (u.ps.map Ty.cells)]] _ from by rw [Ty.refold]; exact Right_pure u) ?_
    try simp only [bS, bA, bF]
    refine hC18 _ ?_; clear hC18 C18
    simp only [bL]
    refine aops_chunk 2 fun C19 hC19 => ?_
    simp only [bL, ↓bO, bS, bA, bF, ↓reduceIte, Nat.reduceEqDiff, reduceCtorEq, undef, aUn, aBool, List.length_map, Nat.reduceAdd, Nat.reduceLeDiff, Int.toNat_natCast, Int.natCast_nonneg, tyX, aReslice, delO, List.filter_cons, List.filter_nil, Nat.reduceBEq]
    refine hC19 _ ?_; clear hC19 C19
    simp only [bL]
    simp only [↓bO, bS, bA, bF, ↓reduceIte, Nat.reduceEqDiff, reduceCtorEq, List.length_map, bL, Nat.reduceAdd, Nat.reduceLeDiff, Int.toNat_natCast, Int.natCast_nonneg, tyX, aReslice, delO, List.filter_cons, List.filter_nil, Nat.reduceBEq]
    refine hK10 _ ?_; try clear hK10 K10
    refine AWp_cond rfl (fun hb19 => ?_) (fun hb19 => ?_)
    ·
     have hno : (l.right && u.right) = false := by first | exact hno | ((have h9 : u.right = false := by simpa using hb19); rw [h9, Bool.and_false])
     refine AWp_seqK fun K20 hK20 => ?_
     refine AWp_region ?_
     simp only [↓bO, bS, bA, bF, ↓reduceIte, Nat.reduceEqDiff, reduceCtorEq, List.length_map, bL, Nat.reduceAdd, Nat.reduceLeDiff, Int.toNat_natCast, Int.natCast_nonneg, tyX, aReslice, delO, List.filter_cons, List.filter_nil, Nat.reduceBEq]
     refine hK20 _ ?_; try clear hK20 K20
     refine AWp_ret ?_
     try simp only [bF, retQ, aRes, tupOf, bS, bA]
     refine ⟨_, enumO 0 (cObs (S)), ⟨(S, 1), ?_, rfl, rfl⟩, .v _ _, cUnd (by omega) _, ?_, ?_, by omega⟩
     · exact .inr (.inl ⟨hcs, hno, rfl⟩)
     ·
      exact Le.refl _
     · first | (refine ⟨2, rfl, rfl⟩) | (refine ⟨2, by simp only [cObs, enumO, List.drop_zero, List.drop_succ_cons, Nat.reduceAdd], rfl⟩)
    ·
     have hrr : u.right = true := by simpa using hb19
     refine AWp_skip ?_
     try simp only [bF]
     refine hK3 _ ?_; try clear hK3 K3
     refine AWp_joinF (σ := CS × Int × Int) [true, false, false, false, false, false, false, true, false, false, false, false, false, false, false, false, false, false, false, false, false, false, false, false, false, false, false, false, false, false, false, false, false, false, false, false, false, false, false, false, false, false, false, false, false, false, false, false, false, false, false, false, false, false, false, false, false, false, false, false, false, false, false, false, false, false, false, false, false, false, false, false, false] (fun j => [(7, .own 10 1)]) (fun j => [(10, .row 120 2 ([(j.2.1, j.2.2)].map pC)), (0, .cells 119 [.v (.int .i64 j.1.steps), .ptr 1 0, .ptr 4 0, .own 7 j.1.W.length, .v (.bool j.1.clash)]), (1, .cells 91 [.osl 2 4 (j.1.G.N.map GNode.cells), .map 3]), (2, .tok 87 4 j.1.G.N.length), (3, .map (j.1.G.V.map vC)), (4, .cells 137 [.own 5 j.1.F.up.length, .own 6 j.1.F.rank.length, .v (.int .i64 j.1.F.sets), .v (.int .i64 j.1.F.steps)]), (5, .row 3 1 (j.1.F.up.map nC)), (6, .row 3 1 (j.1.F.rank.map intC)), (7, .row 3 1 (j.1.W.map intC))]) 11 (fun j => Good E (u.radd (l.radd m).1).1 j.1 ∧ j.2.1 = (l.radd m).2 ∧ j.2.2 = (u.radd (l.radd m).1).2 ∧ (0 ≤ j.2.1 ∧ j.2.1 < (j.1.G.N.length : Int)) ∧ (0 ≤ j.2.2 ∧ j.2.2 < (j.1.G.N.length : Int)) ∧ j.1.G = (u.gadd (l.gadd S.G).1).1 ∧ j.1.clash = false ∧ j.1.G.N.length ≤ 1048576) ?_ (fun j hj => ?_)
     ·
      refine AAny_start [] 9 rfl mixed (trivial) rfl ?_
      dsimp only
      refine AAny_takeK 0 rfl (by kernel_rfl) (by kernel_rfl) (by kernel_rfl) (fun _ _ h => h) fun K21 hK21 => ?_
      simp only [aQuiet, aHeldLoad, CurL, CurOk, ↓bO, bS, bA, bF, ↓reduceIte, Nat.reduceEqDiff, reduceCtorEq, List.length_map, bL, Nat.reduceAdd, Nat.reduceLeDiff, Int.toNat_natCast, Int.natCast_nonneg, tyX, aReslice, delO, List.filter_cons, List.filter_nil, Nat.reduceBEq]
      refine hK21 _ ?_; try clear hK21 K21
      refine AAny_takeK 3 rfl (by kernel_rfl) (by kernel_rfl) (by kernel_rfl) (fun _ _ h => h) fun K22 hK22 => ?_
      simp only [aQuiet, aHeldLoad, CurL, CurOk, ↓bO, bS, bA, bF, ↓reduceIte, Nat.reduceEqDiff, reduceCtorEq, List.length_map, bL, Nat.reduceAdd, Nat.reduceLeDiff, Int.toNat_natCast, Int.natCast_nonneg, tyX, aReslice, delO, List.filter_cons, List.filter_nil, Nat.reduceBEq]
      refine hK22 _ ?_; try clear hK22 K22
      refine AAny_all2 (i := 1) (j := 4) (by kernel_rfl) ?_ ?_
      ·
       refine aAt_op rfl rfl fun K23 hK23 => ?_
       simp only [↓bO, bS, bA, bF, ↓reduceIte, Nat.reduceEqDiff, reduceCtorEq, aLoad, ti32, getO, pack, bL, Nat.reduceAdd, Nat.reduceLeDiff, List.length_map, Int.toNat_natCast, Int.natCast_nonneg, tyX, aReslice, delO, List.filter_cons, List.filter_nil, Nat.reduceBEq]
       refine hK23 _ ⟨trivial, ?_⟩
       try clear hK23 K23
       refine AAny_all2 (i := 2) (j := 4) (by kernel_rfl) ?_ ?_
       ·
        refine aAt_op rfl rfl fun K24 hK24 => ?_
        simp only [↓bO, bS, bA, bF, ↓reduceIte, Nat.reduceEqDiff, reduceCtorEq, aCallV, bL, List.length_map, Nat.reduceAdd, Nat.reduceLeDiff, Int.toNat_natCast, Int.natCast_nonneg, tyX, aReslice, delO, List.filter_cons, List.filter_nil, Nat.reduceBEq]
        rw [Ty.refold l]
        refine CCalls.at (lay_c S l hlr hG.w.c.g hG.w.c.f hG.w.c.fl hG.w.c.wl (by omega)) (.cons (Ty.dataAgg l) .nil) (fun _ => .v _) (i0 := 0) (i1 := 1) (i2 := 2) (i3 := 3) (i4 := 4) (i5 := 5) (i6 := 6) (i7 := 7) (by decide) (by simp) ⟨rfl, rfl, rfl, rfl, rfl, rfl, rfl, rfl, trivial⟩ (fun S1 n1 hL1 => ?_)
        try dsimp only at hL1
        simp only [cObsAt, List.zip_cons_cons, List.zip_nil_left, List.zip_nil_right, putsO, putO, Nat.reduceEqDiff, ↓reduceIte]
        obtain ⟨hG1, he1, hn1, hn1b, hg1, hc1⟩ := hG.lay hlr hcl hL1
        have hle1 := (l.gadd_inv S.G hG.w.c.g).1.le
        rw [← hg1] at hle1
        try simp only [bS, bA]
        refine hK24 _ ⟨trivial, ?_⟩
        try clear hK24 K24
        refine AAny_all1 (i := 4) (by kernel_rfl) ?_
        ·
         refine aAt_op rfl rfl fun K25 hK25 => ?_
         simp only [↓bO, bS, bA, bF, ↓reduceIte, Nat.reduceEqDiff, reduceCtorEq, aLoad, ti32, getO, pack, bL, Nat.reduceAdd, Nat.reduceLeDiff, List.length_map, Int.toNat_natCast, Int.natCast_nonneg, tyX, aReslice, delO, List.filter_cons, List.filter_nil, Nat.reduceBEq]
         refine hK25 _ ⟨trivial, ?_⟩
         try clear hK25 K25
         refine AAny_all1 (i := 5) (by kernel_rfl) ?_
         ·
          refine aAt_op rfl rfl fun K26 hK26 => ?_
          simp only [↓bO, bS, bA, bF, ↓reduceIte, Nat.reduceEqDiff, reduceCtorEq, aCallV, bL, List.length_map, Nat.reduceAdd, Nat.reduceLeDiff, Int.toNat_natCast, Int.natCast_nonneg, tyX, aReslice, delO, List.filter_cons, List.filter_nil, Nat.reduceBEq]
          rw [Ty.refold u]
          refine CCalls.at (lay_c S1 u hrr hG1.w.c.g hG1.w.c.f hG1.w.c.fl hG1.w.c.wl (by omega)) (.cons (Ty.dataAgg u) .nil) (fun _ => .v _) (i0 := 0) (i1 := 1) (i2 := 2) (i3 := 3) (i4 := 4) (i5 := 5) (i6 := 6) (i7 := 7) (by decide) (by simp) ⟨rfl, rfl, rfl, rfl, rfl, rfl, rfl, rfl, trivial⟩ (fun S2 n2 hL2 => ?_)
          try dsimp only at hL2
          simp only [cObsAt, List.zip_cons_cons, List.zip_nil_left, List.zip_nil_right, putsO, putO, Nat.reduceEqDiff, ↓reduceIte]
          obtain ⟨hG2, he2, hn2, hn2b, hg2, hc2⟩ := hG1.lay hrr hcr hL2
          have hle2 := (u.gadd_inv S1.G hG1.w.c.g).1.le
          have hge2 := (u.gadd_inv S1.G hG1.w.c.g).1.ge
          rw [← hg2] at hle2 hge2
          try simp only [bS, bA]
          refine hK26 _ ⟨trivial, ?_⟩
          try clear hK26 K26
          refine AAny_all1 (i := 6) (by kernel_rfl) ?_
          ·
           refine aAt_op rfl rfl fun K27 hK27 => ?_
           simp only [↓bO, bS, bA, bF, ↓reduceIte, Nat.reduceEqDiff, reduceCtorEq, aBuild, zc120, pc120, aFill, splice, bL, Nat.reduceAdd, Nat.reduceLeDiff, List.length_map, Int.toNat_natCast, Int.natCast_nonneg, tyX, aReslice, delO, List.filter_cons, List.filter_nil, Nat.reduceBEq]
           refine hK27 _ ⟨trivial, ?_⟩
           try clear hK27 K27
           refine AAny_all1 (i := 7) (by kernel_rfl) ?_
           ·
            refine aAt_op rfl rfl fun K28 hK28 => ?_
            simp only [↓bO, bS, bA, bF, ↓reduceIte, Nat.reduceEqDiff, reduceCtorEq, ↓bs1_1, ↓bs1_2, ↓bs1_3, ↓bs1_4, ↓bs1_5, ↓bs1_6, ↓bs1_7, ↓bs1_8, ↓bs1_9, ↓bs1_10, ↓bs1_11, ↓bs1_12, aBuildSl, ei121, ia120, bL, List.range_succ, List.range_zero, List.forall_mem_cons, List.not_mem_nil, false_imp_iff, implies_true, Nat.reduceAdd, Nat.reduceLeDiff, forall_eq, List.mem_singleton, List.length_map, Int.toNat_natCast, Int.natCast_nonneg, tyX, aReslice, delO, List.filter_cons, List.filter_nil, Nat.reduceBEq]
            refine hK28 _ ⟨trivial, ?_⟩
            try clear hK28 K28
            refine AAny_takeK 8 rfl (by kernel_rfl) (by kernel_rfl) (by kernel_rfl) (fun _ _ h => h) fun K29 hK29 => ?_
            simp only [aQuiet, aHeldLoad, CurL, CurOk, ↓bO, bS, bA, bF, ↓reduceIte, Nat.reduceEqDiff, reduceCtorEq, List.length_map, bL, Nat.reduceAdd, Nat.reduceLeDiff, Int.toNat_natCast, Int.natCast_nonneg, tyX, aReslice, delO, List.filter_cons, List.filter_nil, Nat.reduceBEq]
            refine hK29 _ ?_; try clear hK29 K29
            refine AAny_done (by kernel_rfl) ?_
            simp only [bF]
            try simp only [maskL, setsL, putsO, putO, bA, Nat.reduceEqDiff, ↓reduceIte]
            refine ⟨(S2, n1, n2), ⟨hG2, he1, he2, ⟨hn1, by dsimp only; omega⟩, ⟨hn2, hn2b⟩, by dsimp only; rw [hg2, hg1], hc2.trans (hc1.trans hcs), by dsimp only; omega⟩, ?_⟩
            refine Weak.sub ?_ ⟨rfl, rfl, rfl, rfl, rfl, rfl, rfl, rfl, rfl, trivial⟩ (by first | omega | (simp only; omega)) (by first | omega | (simp only; omega)) ?_ ?_
            · simp only [LeL, Le.refl, Le.any, and_self]
            · repeat' first | exact trivial | exact .any _ | exact .ptr (by omega) | exact .own (by omega) | exact .v _ _ | (refine ⟨?_, ?_⟩)
            · exact ⟨by omega, Und.rowI (pC_rows _), cUnd (by omega) _⟩
       ·
        refine aAt_op rfl rfl fun K30 hK30 => ?_
        simp only [↓bO, bS, bA, bF, ↓reduceIte, Nat.reduceEqDiff, reduceCtorEq, aLoad, ti32, getO, pack, bL, Nat.reduceAdd, Nat.reduceLeDiff, List.length_map, Int.toNat_natCast, Int.natCast_nonneg, tyX, aReslice, delO, List.filter_cons, List.filter_nil, Nat.reduceBEq]
        refine hK30 _ ⟨trivial, ?_⟩
        try clear hK30 K30
        refine AAny_all1 (i := 2) (by kernel_rfl) ?_
        ·
         refine aAt_op rfl rfl fun K31 hK31 => ?_
         simp only [↓bO, bS, bA, bF, ↓reduceIte, Nat.reduceEqDiff, reduceCtorEq, aCallV, bL, List.length_map, Nat.reduceAdd, Nat.reduceLeDiff, Int.toNat_natCast, Int.natCast_nonneg, tyX, aReslice, delO, List.filter_cons, List.filter_nil, Nat.reduceBEq]
         rw [Ty.refold l]
         refine CCalls.at (lay_c S l hlr hG.w.c.g hG.w.c.f hG.w.c.fl hG.w.c.wl (by omega)) (.cons (Ty.dataAgg l) .nil) (fun _ => .v _) (i0 := 0) (i1 := 1) (i2 := 2) (i3 := 3) (i4 := 4) (i5 := 5) (i6 := 6) (i7 := 7) (by decide) (by simp) ⟨rfl, rfl, rfl, rfl, rfl, rfl, rfl, rfl, trivial⟩ (fun S1 n1 hL1 => ?_)
         try dsimp only at hL1
         simp only [cObsAt, List.zip_cons_cons, List.zip_nil_left, List.zip_nil_right, putsO, putO, Nat.reduceEqDiff, ↓reduceIte]
         obtain ⟨hG1, he1, hn1, hn1b, hg1, hc1⟩ := hG.lay hlr hcl hL1
         have hle1 := (l.gadd_inv S.G hG.w.c.g).1.le
         rw [← hg1] at hle1
         try simp only [bS, bA]
         refine hK31 _ ⟨trivial, ?_⟩
         try clear hK31 K31
         refine AAny_all1 (i := 5) (by kernel_rfl) ?_
         ·
          refine aAt_op rfl rfl fun K32 hK32 => ?_
          simp only [↓bO, bS, bA, bF, ↓reduceIte, Nat.reduceEqDiff, reduceCtorEq, aCallV, bL, List.length_map, Nat.reduceAdd, Nat.reduceLeDiff, Int.toNat_natCast, Int.natCast_nonneg, tyX, aReslice, delO, List.filter_cons, List.filter_nil, Nat.reduceBEq]
          rw [Ty.refold u]
          refine CCalls.at (lay_c S1 u hrr hG1.w.c.g hG1.w.c.f hG1.w.c.fl hG1.w.c.wl (by omega)) (.cons (Ty.dataAgg u) .nil) (fun _ => .v _) (i0 := 0) (i1 := 1) (i2 := 2) (i3 := 3) (i4 := 4) (i5 := 5) (i6 := 6) (i7 := 7) (by decide) (by simp) ⟨rfl, rfl, rfl, rfl, rfl, rfl, rfl, rfl, trivial⟩ (fun S2 n2 hL2 => ?_)
          try dsimp only at hL2
          simp only [cObsAt, List.zip_cons_cons, List.zip_nil_left, List.zip_nil_right, putsO, putO, Nat.reduceEqDiff, ↓reduceIte]
          obtain ⟨hG2, he2, hn2, hn2b, hg2, hc2⟩ := hG1.lay hrr hcr hL2
          have hle2 := (u.gadd_inv S1.G hG1.w.c.g).1.le
          have hge2 := (u.gadd_inv S1.G hG1.w.c.g).1.ge
          rw [← hg2] at hle2 hge2
          try simp only [bS, bA]
          refine hK32 _ ⟨trivial, ?_⟩
          try clear hK32 K32
          refine AAny_all1 (i := 6) (by kernel_rfl) ?_
          ·
           refine aAt_op rfl rfl fun K33 hK33 => ?_
           simp only [↓bO, bS, bA, bF, ↓reduceIte, Nat.reduceEqDiff, reduceCtorEq, aBuild, zc120, pc120, aFill, splice, bL, Nat.reduceAdd, Nat.reduceLeDiff, List.length_map, Int.toNat_natCast, Int.natCast_nonneg, tyX, aReslice, delO, List.filter_cons, List.filter_nil, Nat.reduceBEq]
           refine hK33 _ ⟨trivial, ?_⟩
           try clear hK33 K33
           refine AAny_all1 (i := 7) (by kernel_rfl) ?_
           ·
            refine aAt_op rfl rfl fun K34 hK34 => ?_
            simp only [↓bO, bS, bA, bF, ↓reduceIte, Nat.reduceEqDiff, reduceCtorEq, ↓bs1_1, ↓bs1_2, ↓bs1_3, ↓bs1_4, ↓bs1_5, ↓bs1_6, ↓bs1_7, ↓bs1_8, ↓bs1_9, ↓bs1_10, ↓bs1_11, ↓bs1_12, aBuildSl, ei121, ia120, bL, List.range_succ, List.range_zero, List.forall_mem_cons, List.not_mem_nil, false_imp_iff, implies_true, Nat.reduceAdd, Nat.reduceLeDiff, forall_eq, List.mem_singleton, List.length_map, Int.toNat_natCast, Int.natCast_nonneg, tyX, aReslice, delO, List.filter_cons, List.filter_nil, Nat.reduceBEq]
            refine hK34 _ ⟨trivial, ?_⟩
            try clear hK34 K34
            refine AAny_takeK 8 rfl (by kernel_rfl) (by kernel_rfl) (by kernel_rfl) (fun _ _ h => h) fun K35 hK35 => ?_
            simp only [aQuiet, aHeldLoad, CurL, CurOk, ↓bO, bS, bA, bF, ↓reduceIte, Nat.reduceEqDiff, reduceCtorEq, List.length_map, bL, Nat.reduceAdd, Nat.reduceLeDiff, Int.toNat_natCast, Int.natCast_nonneg, tyX, aReslice, delO, List.filter_cons, List.filter_nil, Nat.reduceBEq]
            refine hK35 _ ?_; try clear hK35 K35
            refine AAny_done (by kernel_rfl) ?_
            simp only [bF]
            try simp only [maskL, setsL, putsO, putO, bA, Nat.reduceEqDiff, ↓reduceIte]
            refine ⟨(S2, n1, n2), ⟨hG2, he1, he2, ⟨hn1, by dsimp only; omega⟩, ⟨hn2, hn2b⟩, by dsimp only; rw [hg2, hg1], hc2.trans (hc1.trans hcs), by dsimp only; omega⟩, ?_⟩
            refine Weak.sub ?_ ⟨rfl, rfl, rfl, rfl, rfl, rfl, rfl, rfl, rfl, trivial⟩ (by first | omega | (simp only; omega)) (by first | omega | (simp only; omega)) ?_ ?_
            · simp only [LeL, Le.refl, Le.any, and_self]
            · repeat' first | exact trivial | exact .any _ | exact .ptr (by omega) | exact .own (by omega) | exact .v _ _ | (refine ⟨?_, ?_⟩)
            · exact ⟨by omega, Und.rowI (pC_rows _), cUnd (by omega) _⟩
      ·
       refine aAt_op rfl rfl fun K36 hK36 => ?_
       simp only [↓bO, bS, bA, bF, ↓reduceIte, Nat.reduceEqDiff, reduceCtorEq, aLoad, ti32, getO, pack, bL, Nat.reduceAdd, Nat.reduceLeDiff, List.length_map, Int.toNat_natCast, Int.natCast_nonneg, tyX, aReslice, delO, List.filter_cons, List.filter_nil, Nat.reduceBEq]
       refine hK36 _ ⟨trivial, ?_⟩
       try clear hK36 K36
       refine AAny_all1 (i := 1) (by kernel_rfl) ?_
       ·
        refine aAt_op rfl rfl fun K37 hK37 => ?_
        simp only [↓bO, bS, bA, bF, ↓reduceIte, Nat.reduceEqDiff, reduceCtorEq, aLoad, ti32, getO, pack, bL, Nat.reduceAdd, Nat.reduceLeDiff, List.length_map, Int.toNat_natCast, Int.natCast_nonneg, tyX, aReslice, delO, List.filter_cons, List.filter_nil, Nat.reduceBEq]
        refine hK37 _ ⟨trivial, ?_⟩
        try clear hK37 K37
        refine AAny_all1 (i := 2) (by kernel_rfl) ?_
        ·
         refine aAt_op rfl rfl fun K38 hK38 => ?_
         simp only [↓bO, bS, bA, bF, ↓reduceIte, Nat.reduceEqDiff, reduceCtorEq, aCallV, bL, List.length_map, Nat.reduceAdd, Nat.reduceLeDiff, Int.toNat_natCast, Int.natCast_nonneg, tyX, aReslice, delO, List.filter_cons, List.filter_nil, Nat.reduceBEq]
         rw [Ty.refold l]
         refine CCalls.at (lay_c S l hlr hG.w.c.g hG.w.c.f hG.w.c.fl hG.w.c.wl (by omega)) (.cons (Ty.dataAgg l) .nil) (fun _ => .v _) (i0 := 0) (i1 := 1) (i2 := 2) (i3 := 3) (i4 := 4) (i5 := 5) (i6 := 6) (i7 := 7) (by decide) (by simp) ⟨rfl, rfl, rfl, rfl, rfl, rfl, rfl, rfl, trivial⟩ (fun S1 n1 hL1 => ?_)
         try dsimp only at hL1
         simp only [cObsAt, List.zip_cons_cons, List.zip_nil_left, List.zip_nil_right, putsO, putO, Nat.reduceEqDiff, ↓reduceIte]
         obtain ⟨hG1, he1, hn1, hn1b, hg1, hc1⟩ := hG.lay hlr hcl hL1
         have hle1 := (l.gadd_inv S.G hG.w.c.g).1.le
         rw [← hg1] at hle1
         try simp only [bS, bA]
         refine hK38 _ ⟨trivial, ?_⟩
         try clear hK38 K38
         refine AAny_all1 (i := 5) (by kernel_rfl) ?_
         ·
          refine aAt_op rfl rfl fun K39 hK39 => ?_
          simp only [↓bO, bS, bA, bF, ↓reduceIte, Nat.reduceEqDiff, reduceCtorEq, aCallV, bL, List.length_map, Nat.reduceAdd, Nat.reduceLeDiff, Int.toNat_natCast, Int.natCast_nonneg, tyX, aReslice, delO, List.filter_cons, List.filter_nil, Nat.reduceBEq]
          rw [Ty.refold u]
          refine CCalls.at (lay_c S1 u hrr hG1.w.c.g hG1.w.c.f hG1.w.c.fl hG1.w.c.wl (by omega)) (.cons (Ty.dataAgg u) .nil) (fun _ => .v _) (i0 := 0) (i1 := 1) (i2 := 2) (i3 := 3) (i4 := 4) (i5 := 5) (i6 := 6) (i7 := 7) (by decide) (by simp) ⟨rfl, rfl, rfl, rfl, rfl, rfl, rfl, rfl, trivial⟩ (fun S2 n2 hL2 => ?_)
          try dsimp only at hL2
          simp only [cObsAt, List.zip_cons_cons, List.zip_nil_left, List.zip_nil_right, putsO, putO, Nat.reduceEqDiff, ↓reduceIte]
          obtain ⟨hG2, he2, hn2, hn2b, hg2, hc2⟩ := hG1.lay hrr hcr hL2
          have hle2 := (u.gadd_inv S1.G hG1.w.c.g).1.le
          have hge2 := (u.gadd_inv S1.G hG1.w.c.g).1.ge
          rw [← hg2] at hle2 hge2
          try simp only [bS, bA]
          refine hK39 _ ⟨trivial, ?_⟩
          try clear hK39 K39
          refine AAny_all1 (i := 6) (by kernel_rfl) ?_
          ·
           refine aAt_op rfl rfl fun K40 hK40 => ?_
           simp only [↓bO, bS, bA, bF, ↓reduceIte, Nat.reduceEqDiff, reduceCtorEq, aBuild, zc120, pc120, aFill, splice, bL, Nat.reduceAdd, Nat.reduceLeDiff, List.length_map, Int.toNat_natCast, Int.natCast_nonneg, tyX, aReslice, delO, List.filter_cons, List.filter_nil, Nat.reduceBEq]
           refine hK40 _ ⟨trivial, ?_⟩
           try clear hK40 K40
           refine AAny_all1 (i := 7) (by kernel_rfl) ?_
           ·
            refine aAt_op rfl rfl fun K41 hK41 => ?_
            simp only [↓bO, bS, bA, bF, ↓reduceIte, Nat.reduceEqDiff, reduceCtorEq, ↓bs1_1, ↓bs1_2, ↓bs1_3, ↓bs1_4, ↓bs1_5, ↓bs1_6, ↓bs1_7, ↓bs1_8, ↓bs1_9, ↓bs1_10, ↓bs1_11, ↓bs1_12, aBuildSl, ei121, ia120, bL, List.range_succ, List.range_zero, List.forall_mem_cons, List.not_mem_nil, false_imp_iff, implies_true, Nat.reduceAdd, Nat.reduceLeDiff, forall_eq, List.mem_singleton, List.length_map, Int.toNat_natCast, Int.natCast_nonneg, tyX, aReslice, delO, List.filter_cons, List.filter_nil, Nat.reduceBEq]
            refine hK41 _ ⟨trivial, ?_⟩
            try clear hK41 K41
            refine AAny_takeK 8 rfl (by kernel_rfl) (by kernel_rfl) (by kernel_rfl) (fun _ _ h => h) fun K42 hK42 => ?_
            simp only [aQuiet, aHeldLoad, CurL, CurOk, ↓bO, bS, bA, bF, ↓reduceIte, Nat.reduceEqDiff, reduceCtorEq, List.length_map, bL, Nat.reduceAdd, Nat.reduceLeDiff, Int.toNat_natCast, Int.natCast_nonneg, tyX, aReslice, delO, List.filter_cons, List.filter_nil, Nat.reduceBEq]
            refine hK42 _ ?_; try clear hK42 K42
            refine AAny_done (by kernel_rfl) ?_
            simp only [bF]
            try simp only [maskL, setsL, putsO, putO, bA, Nat.reduceEqDiff, ↓reduceIte]
            refine ⟨(S2, n1, n2), ⟨hG2, he1, he2, ⟨hn1, by dsimp only; omega⟩, ⟨hn2, hn2b⟩, by dsimp only; rw [hg2, hg1], hc2.trans (hc1.trans hcs), by dsimp only; omega⟩, ?_⟩
            refine Weak.sub ?_ ⟨rfl, rfl, rfl, rfl, rfl, rfl, rfl, rfl, rfl, trivial⟩ (by first | omega | (simp only; omega)) (by first | omega | (simp only; omega)) ?_ ?_
            · simp only [LeL, Le.refl, Le.any, and_self]
            · repeat' first | exact trivial | exact .any _ | exact .ptr (by omega) | exact .own (by omega) | exact .v _ _ | (refine ⟨?_, ?_⟩)
            · exact ⟨by omega, Und.rowI (pC_rows _), cUnd (by omega) _⟩
     simp only [maskL, setsL, putsO, putO, bA, Nat.reduceEqDiff, ↓reduceIte]
     refine AWp_seqK fun K43 hK43 => ?_
     refine AWp_label ?_
     try simp only [bF]
     refine hK43 _ ?_; try clear hK43 K43
     refine AWp_seqK fun K44 hK44 => ?_
     refine AWp_block ?_
     refine AWp_loopM (σ := CS × List (Int × Int)) [true, false, false, false, false, false, false, true, false, false, false, false, false, false, false, false, false, false, false, false, false, false, false, false, false, false, false, false, false, false, false, false, false, false, false, false, false, false, false, false, false, false, false, false, false, false, false, false, false, false, false, false, false, false, false, false, false, false, false, false, false, false, false, false, false, false, false, false, false, false, false, false, false] (fun s => WInv (E ++ [(j.2.1.toNat, j.2.2.toNat)]) s.1 s.2 ∧ s.1.clash = false ∧ s.1.G = j.1.G ∧ 9 * nroots s.1.F.up + s.2.length ≤ 9437185) (fun s => [(7, .own 10 s.2.length)]) (fun s => [(10, .row 120 2 (s.2.map pC)), (0, .cells 119 [.v (.int .i64 s.1.steps), .ptr 1 0, .ptr 4 0, .own 7 s.1.W.length, .v (.bool s.1.clash)]), (1, .cells 91 [.osl 2 4 (s.1.G.N.map GNode.cells), .map 3]), (2, .tok 87 4 s.1.G.N.length), (3, .map (s.1.G.V.map vC)), (4, .cells 137 [.own 5 s.1.F.up.length, .own 6 s.1.F.rank.length, .v (.int .i64 s.1.F.sets), .v (.int .i64 s.1.F.steps)]), (5, .row 3 1 (s.1.F.up.map nC)), (6, .row 3 1 (s.1.F.rank.map intC)), (7, .row 3 1 (s.1.W.map intC))]) (fun s => 9 * nroots s.1.F.up + s.2.length) (j.1, [(j.2.1, j.2.2)]) (⟨hj.1.w.begin hj.2.2.2.1 hj.2.2.2.2.1, hj.2.2.2.2.2.2.1, rfl, by have h7 := nroots_le j.1.F.up; have h8 := hj.1.w.c.fl; have h9 := hj.1.w.c.wl; have h6 := hj.2.2.2.2.2.2.2; simp only [List.length_cons, List.length_nil]; omega⟩) ?_ (fun s hs => ?_)
     ·
      simp only [maskL, setsL, putsO, putO, bA, Nat.reduceEqDiff, ↓reduceIte, bL]
      exact Weak.mk (by simp only [LeL, Le.refl, Le.any, Le.slNil, and_self, Int.natCast_add, Int.cast_ofNat_Int, Int.natCast_one]) (fun _ _ h => h) rfl rfl
     simp only [maskL, setsL, putsO, putO, bA, Nat.reduceEqDiff, ↓reduceIte]
     refine AWp_seqK fun K45 hK45 => ?_
     refine AWp_seqK fun K46 hK46 => ?_
     refine AWp_region ?_
     refine aops_chunk 2 fun C47 hC47 => ?_
     simp only [bL, ↓bO, bS, bA, bF, ↓reduceIte, Nat.reduceEqDiff, reduceCtorEq, getO, aLenX, aLen, ln121, List.length_map, Nat.reduceAdd, Nat.reduceLeDiff, Int.toNat_natCast, Int.natCast_nonneg, tyX, aReslice, delO, List.filter_cons, List.filter_nil, Nat.reduceBEq]
     refine hC47 _ ?_; clear hC47 C47
     simp only [bL]
     simp only [↓bO, bS, bA, bF, ↓reduceIte, Nat.reduceEqDiff, reduceCtorEq, aBin, List.length_map, bL, Nat.reduceAdd, Nat.reduceLeDiff, Int.toNat_natCast, Int.natCast_nonneg, tyX, aReslice, delO, List.filter_cons, List.filter_nil, Nat.reduceBEq]
     refine hK46 _ ?_; try clear hK46 K46
     refine AWp_cond rfl (fun hb38 => ?_) (fun hb38 => ?_)
     ·
      have hwl : 0 < s.2.length := by simpa using hb38
      obtain ⟨w0, p9, hw⟩ : ∃ w0 p, s.2 = w0 ++ [p] := snoc_of hwl
      have hwr := hs.1.wr p9 (by rw [hw]; simp)
      obtain ⟨a, b, rfl⟩ : ∃ a b : Nat, p9 = ((a : Int), (b : Int)) := ⟨p9.1.toNat, p9.2.toNat, by ext <;> simp only <;> omega⟩
      have hw2 : WInv (E ++ [(j.2.1.toNat, j.2.2.toNat)]) s.1 (w0 ++ [((a : Int), (b : Int))]) := by rw [← hw]; exact hs.1
      have hbd := hs.2.2.2
      have hwl2 : s.2.length = w0.length + 1 := by rw [hw]; simp
      have hwr2 : IntKind.i64.wrap ((w0.length : Int) + 1 - 1) = (w0.length : Int) := by rw [wrap_in (by omega) (by omega)]; omega
      have hgd : (s.2.map pC).getD w0.length [] = pC ((a : Int), (b : Int)) := gM (by rw [hw]; simp)
      have htk : (s.2.map pC).take w0.length = w0.map pC := by rw [hw]; simp
      have hlt9 : (w0.length : Int) < (w0.length : Int) + 1 := by omega
      have hle9 : (w0.length : Int) ≤ (w0.length : Int) + 1 := by omega
      have h09 : (0 : Int) ≤ (w0.length : Int) := by omega
      have hlen9 := hs.1.c.fl
      have hlen8 := hs.1.c.wl
      refine AWp_skip ?_
      try simp only [bF]
      refine hK45 _ ?_; try clear hK45 K45
      refine AWp_block ?_
      refine AWp_seqK fun K48 hK48 => ?_
      refine AWp_region ?_
      refine aops_chunk 2 fun C49 hC49 => ?_
      simp only [bL, ↓bO, bS, bA, bF, ↓reduceIte, Nat.reduceEqDiff, reduceCtorEq, List.length_map, Nat.reduceAdd, Nat.reduceLeDiff, Int.toNat_natCast, Int.natCast_nonneg, tyX, aReslice, delO, List.filter_cons, List.filter_nil, Nat.reduceBEq, hwl2, hwr2, Nat.lt_add_one, Nat.le_add_right, getO, hgd, htk, hlt9, hle9, h09, pC, Int.natCast_add, Int.natCast_one, Int.cast_ofNat_Int]
      refine hC49 _ ?_; clear hC49 C49
      simp only [bL]
      refine aops_chunk 1 fun C50 hC50 => ?_
      simp only [bL, ↓bO, bS, bA, bF, ↓reduceIte, Nat.reduceEqDiff, reduceCtorEq, aField, fo119_0, Nat.reduceAdd, List.length_map, Nat.reduceLeDiff, Int.toNat_natCast, Int.natCast_nonneg, tyX, aReslice, delO, List.filter_cons, List.filter_nil, Nat.reduceBEq, hwl2, hwr2, Nat.lt_add_one, Nat.le_add_right, getO, hgd, htk, hlt9, hle9, h09, pC, Int.natCast_add, Int.natCast_one, Int.cast_ofNat_Int]
      refine hC50 _ ?_; clear hC50 C50
      simp only [bL]
      simp only [↓bO, bS, bA, bF, ↓reduceIte, Nat.reduceEqDiff, reduceCtorEq, aCallV, bL, List.length_map, Nat.reduceAdd, Nat.reduceLeDiff, Int.toNat_natCast, Int.natCast_nonneg, tyX, aReslice, delO, List.filter_cons, List.filter_nil, Nat.reduceBEq, hwl2, hwr2, Nat.lt_add_one, Nat.le_add_right, getO, hgd, htk, hlt9, hle9, h09, pC, Int.natCast_add, Int.natCast_one, Int.cast_ofNat_Int]
      refine tick_at rfl ?_
      simp only [putO, Nat.reduceEqDiff, ↓reduceIte]
      try simp only [bS, bA, bF]
      refine hK48 _ ?_; try clear hK48 K48
      refine AWp_seqK fun K51 hK51 => ?_
      refine AWp_region ?_
      refine aops_chunk 2 fun C52 hC52 => ?_
      simp only [bL, ↓bO, bS, bA, bF, ↓reduceIte, Nat.reduceEqDiff, reduceCtorEq, List.length_map, Nat.reduceAdd, Nat.reduceLeDiff, Int.toNat_natCast, Int.natCast_nonneg, tyX, aReslice, delO, List.filter_cons, List.filter_nil, Nat.reduceBEq, hwl2, hwr2, Nat.lt_add_one, Nat.le_add_right, getO, hgd, htk, hlt9, hle9, h09, pC, Int.natCast_add, Int.natCast_one, Int.cast_ofNat_Int]
      refine hC52 _ ?_; clear hC52 C52
      simp only [bL]
      refine aops_chunk 2 fun C53 hC53 => ?_
      simp only [bL, ↓bO, bS, bA, bF, ↓reduceIte, Nat.reduceEqDiff, reduceCtorEq, getO, aLenX, aLen, ln121, List.length_map, aBin, Nat.reduceAdd, Nat.reduceLeDiff, Int.toNat_natCast, Int.natCast_nonneg, tyX, aReslice, delO, List.filter_cons, List.filter_nil, Nat.reduceBEq, hwl2, hwr2, Nat.lt_add_one, Nat.le_add_right, hgd, htk, hlt9, hle9, h09, pC, Int.natCast_add, Int.natCast_one, Int.cast_ofNat_Int]
      refine hC53 _ ?_; clear hC53 C53
      simp only [bL]
      refine aops_chunk 2 fun C54 hC54 => ?_
      simp only [bL, ↓bO, bS, bA, bF, ↓reduceIte, Nat.reduceEqDiff, reduceCtorEq, getO, aIndexA, es121, Int.natCast_nonneg, Int.ofNat_lt, Int.toNat_natCast, List.length_map, Int.le_refl, Int.toNat_zero, Int.toNat_one, Int.reduceLE, aLoad, ti120, pack, Nat.reduceAdd, Nat.reduceLeDiff, tyX, aReslice, delO, List.filter_cons, List.filter_nil, Nat.reduceBEq, hwl2, hwr2, Nat.lt_add_one, Nat.le_add_right, hgd, htk, hlt9, hle9, h09, pC, Int.natCast_add, Int.natCast_one, Int.cast_ofNat_Int]
      refine hC54 _ ?_; clear hC54 C54
      simp only [bL]
      simp only [↓bO, bS, bA, bF, ↓reduceIte, Nat.reduceEqDiff, reduceCtorEq, zc120, bL, aStore, ti120, getO, putO, splice, Nat.reduceAdd, Nat.reduceLeDiff, List.length_map, Int.toNat_natCast, Int.natCast_nonneg, tyX, aReslice, delO, List.filter_cons, List.filter_nil, Nat.reduceBEq, hwl2, hwr2, Nat.lt_add_one, Nat.le_add_right, hgd, htk, hlt9, hle9, h09, pC, Int.natCast_add, Int.natCast_one, Int.cast_ofNat_Int]
      refine hK51 _ ?_; try clear hK51 K51
      refine AWp_seqK fun K55 hK55 => ?_
      refine AWp_region ?_
      refine aops_chunk 2 fun C56 hC56 => ?_
      simp only [bL, ↓bO, bS, bA, bF, ↓reduceIte, Nat.reduceEqDiff, reduceCtorEq, List.length_map, Nat.reduceAdd, Nat.reduceLeDiff, Int.toNat_natCast, Int.natCast_nonneg, tyX, aReslice, delO, List.filter_cons, List.filter_nil, Nat.reduceBEq, hwl2, hwr2, Nat.lt_add_one, Nat.le_add_right, getO, hgd, htk, hlt9, hle9, h09, pC, Int.natCast_add, Int.natCast_one, Int.cast_ofNat_Int]
      refine hC56 _ ?_; clear hC56 C56
      simp only [bL]
      refine aops_chunk 2 fun C57 hC57 => ?_
      simp only [bL, ↓bO, bS, bA, bF, ↓reduceIte, Nat.reduceEqDiff, reduceCtorEq, getO, aLenX, aLen, ln121, List.length_map, aBin, Nat.reduceAdd, Nat.reduceLeDiff, Int.toNat_natCast, Int.natCast_nonneg, tyX, aReslice, delO, List.filter_cons, List.filter_nil, Nat.reduceBEq, hwl2, hwr2, Nat.lt_add_one, Nat.le_add_right, hgd, htk, hlt9, hle9, h09, pC, Int.natCast_add, Int.natCast_one, Int.cast_ofNat_Int]
      refine hC57 _ ?_; clear hC57 C57
      simp only [bL]
      simp only [↓bO, bS, bA, bF, ↓reduceIte, Nat.reduceEqDiff, reduceCtorEq, aMore, aSlice, aBnd, es121, Option.map_some, Option.map_none, Int.toNat_natCast, Int.toNat_zero, Int.toNat_one, Int.reduceLE, Int.natCast_nonneg, List.length_map, List.take_length, bL, Int.le_refl, Nat.reduceAdd, Nat.reduceLeDiff, tyX, aReslice, delO, List.filter_cons, List.filter_nil, Nat.reduceBEq, hwl2, hwr2, Nat.lt_add_one, Nat.le_add_right, getO, hgd, htk, hlt9, hle9, h09, pC, Int.natCast_add, Int.natCast_one, Int.cast_ofNat_Int]
      refine hK55 _ ?_; try clear hK55 K55
      refine AWp_seqK fun K58 hK58 => ?_
      refine AWp_region ?_
      refine aops_chunk 2 fun C59 hC59 => ?_
      simp only [bL, ↓bO, bS, bA, bF, ↓reduceIte, Nat.reduceEqDiff, reduceCtorEq, getO, aIndexA, ar120, Int.reduceLT, Nat.reduceLT, Int.cast_ofNat_Int, Int.natCast_one, Nat.one_mul, Nat.mul_one, Nat.reduceAdd, Nat.reduceMul, Int.natCast_nonneg, Int.ofNat_lt, Int.toNat_natCast, List.length_map, Int.le_refl, Int.toNat_zero, Int.toNat_one, Int.reduceLE, Nat.reduceLeDiff, tyX, aReslice, delO, List.filter_cons, List.filter_nil, Nat.reduceBEq, hwl2, hwr2, Nat.lt_add_one, Nat.le_add_right, hgd, htk, hlt9, hle9, h09, pC, Int.natCast_add]
      refine hC59 _ ?_; clear hC59 C59
      simp only [bL]
      refine aops_chunk 2 fun C60 hC60 => ?_
      simp only [bL, ↓bO, bS, bA, bF, ↓reduceIte, Nat.reduceEqDiff, reduceCtorEq, aLoad, ti3, getO, pack, Nat.reduceAdd, Nat.reduceLeDiff, aIndexA, ar120, Int.reduceLT, Nat.reduceLT, Int.cast_ofNat_Int, Int.natCast_one, Nat.one_mul, Nat.mul_one, Nat.reduceMul, Int.natCast_nonneg, Int.ofNat_lt, Int.toNat_natCast, List.length_map, Int.le_refl, Int.toNat_zero, Int.toNat_one, Int.reduceLE, tyX, aReslice, delO, List.filter_cons, List.filter_nil, Nat.reduceBEq, hwl2, hwr2, Nat.lt_add_one, Nat.le_add_right, hgd, htk, hlt9, hle9, h09, pC, Int.natCast_add]
      refine hC60 _ ?_; clear hC60 C60
      simp only [bL]
      refine aops_chunk 1 fun C61 hC61 => ?_
      simp only [bL, ↓bO, bS, bA, bF, ↓reduceIte, Nat.reduceEqDiff, reduceCtorEq, aLoad, ti3, getO, pack, Nat.reduceAdd, Nat.reduceLeDiff, List.length_map, Int.toNat_natCast, Int.natCast_nonneg, tyX, aReslice, delO, List.filter_cons, List.filter_nil, Nat.reduceBEq, hwl2, hwr2, Nat.lt_add_one, Nat.le_add_right, hgd, htk, hlt9, hle9, h09, pC, Int.natCast_add, Int.natCast_one, Int.cast_ofNat_Int]
      refine hC61 _ ?_; clear hC61 C61
      simp only [bL]
      refine aops_chunk 1 fun C62 hC62 => ?_
      simp only [bL, ↓bO, bS, bA, bF, ↓reduceIte, Nat.reduceEqDiff, reduceCtorEq, aCallV, List.length_map, Nat.reduceAdd, Nat.reduceLeDiff, Int.toNat_natCast, Int.natCast_nonneg, tyX, aReslice, delO, List.filter_cons, List.filter_nil, Nat.reduceBEq, hwl2, hwr2, Nat.lt_add_one, Nat.le_add_right, getO, hgd, htk, hlt9, hle9, h09, pC, Int.natCast_add, Int.natCast_one, Int.cast_ofNat_Int]
      refine CCalls.at (join_c { s.1 with steps := IntKind.i64.wrap (s.1.steps + 1) } ⟨hs.1.c.g, hs.1.c.f, hs.1.c.fl, hs.1.c.wl, hs.1.c.wr, hs.1.c.pl, hs.1.c.pr⟩ a b (by dsimp only; omega) (by dsimp only; omega)) (.cons (.v _) (.cons (.v _) .nil)) (fun _ => .tup (.cons (pC_data _) (.cons (.v _) .nil))) (i0 := 0) (i1 := 1) (i2 := 2) (i3 := 3) (i4 := 4) (i5 := 5) (i6 := 6) (i7 := 7) (by decide) (by simp) ⟨rfl, rfl, rfl, rfl, rfl, rfl, rfl, rfl, trivial⟩ (fun S3 r3 hJ0 => ?_)
      try dsimp only at hJ0
      simp only [cObsAt, List.zip_cons_cons, List.zip_nil_left, List.zip_nil_right, putsO, putO, Nat.reduceEqDiff, ↓reduceIte]
      have hJ : CJoin s.1 a b (S3, r3) := ⟨hJ0.g, hJ0.c, hJ0.ex⟩
      try simp only [bS, bA, bF]
      refine hC62 _ ?_; clear hC62 C62
      simp only [bL]
      refine aops_chunk 2 fun C63 hC63 => ?_
      simp only [bL, ↓bO, bS, bA, bF, ↓reduceIte, Nat.reduceEqDiff, reduceCtorEq, aExtract, Nat.reduceAdd, Nat.reduceLT, Nat.zero_lt_succ, List.length_map, Nat.reduceLeDiff, Int.toNat_natCast, Int.natCast_nonneg, tyX, aReslice, delO, List.filter_cons, List.filter_nil, Nat.reduceBEq, hwl2, hwr2, Nat.lt_add_one, Nat.le_add_right, getO, hgd, htk, hlt9, hle9, h09, pC, Int.natCast_add, Int.natCast_one, Int.cast_ofNat_Int]
      refine hC63 _ ?_; clear hC63 C63
      simp only [bL]
      refine aops_chunk 2 fun C64 hC64 => ?_
      simp only [bL, ↓bO, bS, bA, bF, ↓reduceIte, Nat.reduceEqDiff, reduceCtorEq, aExtract, Nat.reduceAdd, Nat.reduceLT, Nat.zero_lt_succ, List.length_map, Nat.reduceLeDiff, Int.toNat_natCast, Int.natCast_nonneg, tyX, aReslice, delO, List.filter_cons, List.filter_nil, Nat.reduceBEq, hwl2, hwr2, Nat.lt_add_one, Nat.le_add_right, getO, hgd, htk, hlt9, hle9, h09, pC, Int.natCast_add, Int.natCast_one, Int.cast_ofNat_Int]
      refine hC64 _ ?_; clear hC64 C64
      simp only [bL]
      simp only [↓bO, bS, bA, bF, ↓reduceIte, Nat.reduceEqDiff, reduceCtorEq, List.length_map, bL, Nat.reduceAdd, Nat.reduceLeDiff, Int.toNat_natCast, Int.natCast_nonneg, tyX, aReslice, delO, List.filter_cons, List.filter_nil, Nat.reduceBEq, hwl2, hwr2, Nat.lt_add_one, Nat.le_add_right, getO, hgd, htk, hlt9, hle9, h09, pC, Int.natCast_add, Int.natCast_one, Int.cast_ofNat_Int]
      refine hK58 _ ?_; try clear hK58 K58
      refine AWp_seqK fun K65 hK65 => ?_
      refine AWp_seqK fun K66 hK66 => ?_
      refine AWp_region ?_
      simp only [↓bO, bS, bA, bF, ↓reduceIte, Nat.reduceEqDiff, reduceCtorEq, aUn, List.length_map, bL, Nat.reduceAdd, Nat.reduceLeDiff, Int.toNat_natCast, Int.natCast_nonneg, tyX, aReslice, delO, List.filter_cons, List.filter_nil, Nat.reduceBEq, hwl2, hwr2, Nat.lt_add_one, Nat.le_add_right, getO, hgd, htk, hlt9, hle9, h09, pC, Int.natCast_add, Int.natCast_one, Int.cast_ofNat_Int]
      refine hK66 _ ?_; try clear hK66 K66
      refine AWp_cond rfl (fun hb64 => ?_) (fun hb64 => ?_)
      ·
       have hJ2 : CJoin s.1 a b (S3, (r3.1, false)) := by (have h9 : r3.2 = false := by simpa using hb64); rw [← h9]; exact hJ
       have hfg : S3.G = (u.gadd (l.gadd S.G).1).1 := hJ.g.trans (hs.2.2.1.trans hj.2.2.2.2.2.1)
       have hbad := hw2.bad hJ2
       rw [hs.2.2.1, hj.1.rel.sh, hj.2.1, hj.2.2.1] at hbad
       refine AWp_seqK fun K67 hK67 => ?_
       refine AWp_region ?_
       refine aops_chunk 2 fun C68 hC68 => ?_
       simp only [bL, ↓bO, bS, bA, bF, ↓reduceIte, Nat.reduceEqDiff, reduceCtorEq, List.length_map, Nat.reduceAdd, Nat.reduceLeDiff, Int.toNat_natCast, Int.natCast_nonneg, tyX, aReslice, delO, List.filter_cons, List.filter_nil, Nat.reduceBEq, hwl2, hwr2, Nat.lt_add_one, Nat.le_add_right, getO, hgd, htk, hlt9, hle9, h09, pC, Int.natCast_add, Int.natCast_one, Int.cast_ofNat_Int]
       refine hC68 _ ?_; clear hC68 C68
       simp only [bL]
       simp only [↓bO, bS, bA, bF, ↓reduceIte, Nat.reduceEqDiff, reduceCtorEq, aField, fo119_4, bL, Nat.reduceAdd, aStore, ti4, getO, putO, splice, Nat.reduceLeDiff, List.length_map, Int.toNat_natCast, Int.natCast_nonneg, tyX, aReslice, delO, List.filter_cons, List.filter_nil, Nat.reduceBEq, hwl2, hwr2, Nat.lt_add_one, Nat.le_add_right, hgd, htk, hlt9, hle9, h09, pC, Int.natCast_add, Int.natCast_one, Int.cast_ofNat_Int]
       refine hK67 _ ?_; try clear hK67 K67
       refine AWp_exit ?_
       simp only [bF, bA, Nat.reduceEqDiff, ↓reduceIte]
       refine hK44 _ ?_; try clear hK44 K44
       refine AWp_seqK fun K69 hK69 => ?_
       refine AWp_region ?_
       refine aops_chunk 1 fun C70 hC70 => ?_
       simp only [bL, ↓bO, bS, bA, bF, ↓reduceIte, Nat.reduceEqDiff, reduceCtorEq, List.length_map, Nat.reduceAdd, Nat.reduceLeDiff, Int.toNat_natCast, Int.natCast_nonneg, tyX, aReslice, delO, List.filter_cons, List.filter_nil, Nat.reduceBEq]
       refine hC70 _ ?_; clear hC70 C70
       simp only [bL]
       refine aops_chunk 1 fun C71 hC71 => ?_
       simp only [bL, ↓bO, bS, bA, bF, ↓reduceIte, Nat.reduceEqDiff, reduceCtorEq, aCallV, List.length_map, Nat.reduceAdd, Nat.reduceLeDiff, Int.toNat_natCast, Int.natCast_nonneg, tyX, aReslice, delO, List.filter_cons, List.filter_nil, Nat.reduceBEq]
       refine CCalls.at (Err_c { S3 with clash := true }) (.nil) (fun _ => .v _) (i0 := 0) (i1 := 1) (i2 := 2) (i3 := 3) (i4 := 4) (i5 := 5) (i6 := 6) (i7 := 7) (by decide) (by simp) ⟨rfl, rfl, rfl, rfl, rfl, rfl, rfl, rfl, trivial⟩ (fun Z9 u9 hZ9 => ?_)
       try dsimp only at hZ9
       simp only [cObsAt, List.zip_cons_cons, List.zip_nil_left, List.zip_nil_right, putsO, putO, Nat.reduceEqDiff, ↓reduceIte]
       subst hZ9
       try simp only [bS, bA, bF]
       refine hC71 _ ?_; clear hC71 C71
       simp only [bL]
       simp only [↓bO, bS, bA, bF, ↓reduceIte, Nat.reduceEqDiff, reduceCtorEq, List.length_map, bL, Nat.reduceAdd, Nat.reduceLeDiff, Int.toNat_natCast, Int.natCast_nonneg, tyX, aReslice, delO, List.filter_cons, List.filter_nil, Nat.reduceBEq]
       refine hK69 _ ?_; try clear hK69 K69
       refine AWp_ret ?_
       try simp only [bF, retQ, aRes, tupOf, bS, bA]
       refine ⟨_, enumO 0 (cObs ({ S3 with clash := true })), ⟨({ S3 with clash := true }, 7), ?_, rfl, rfl⟩, .v _ _, cUnd (by omega) _, ?_, ?_, by omega⟩
       · exact .inr (.inr ⟨hcs, hlr, hrr, hfg, .inr ⟨rfl, rfl, hbad⟩⟩)
       ·
        exact Le.refl _
       · first | (refine ⟨2, rfl, rfl⟩) | (refine ⟨3, rfl, rfl⟩) | (refine ⟨4, rfl, rfl⟩) | (refine ⟨5, rfl, rfl⟩) | (refine ⟨2, by simp only [cObs, enumO, List.drop_zero, List.drop_succ_cons, Nat.reduceAdd], rfl⟩) | (refine ⟨3, by simp only [cObs, enumO, List.drop_zero, List.drop_succ_cons, Nat.reduceAdd], rfl⟩) | (refine ⟨4, by simp only [cObs, enumO, List.drop_zero, List.drop_succ_cons, Nat.reduceAdd], rfl⟩) | (refine ⟨5, by simp only [cObs, enumO, List.drop_zero, List.drop_succ_cons, Nat.reduceAdd], rfl⟩)
      ·
       have hJ2 : CJoin s.1 a b (S3, (r3.1, true)) := by (have h9 : r3.2 = true := by simpa using hb64); rw [← h9]; exact hJ
       have hst := hw2.step hJ2
       have hls := hw2.less hJ2
       have hml : r3.1.length ≤ 9437185 := by have := hs.2.2.2; simp only [hw, List.length_append] at this hls; omega
       have hb1 : (w0.length + r3.1.length) * 16 ≤ 140737488355328 := by omega
       have hb2 : w0.length + r3.1.length ≤ maxLen := by simp only [maxLen]; omega
       refine AWp_skip ?_
       try simp only [bF]
       refine hK65 _ ?_; try clear hK65 K65
       refine AWp_region ?_
       refine aops_chunk 2 fun C72 hC72 => ?_
       simp only [bL, ↓bO, bS, bA, bF, ↓reduceIte, Nat.reduceEqDiff, reduceCtorEq, List.length_map, Nat.reduceAdd, Nat.reduceLeDiff, Int.toNat_natCast, Int.natCast_nonneg, tyX, aReslice, delO, List.filter_cons, List.filter_nil, Nat.reduceBEq, hwl2, hwr2, Nat.lt_add_one, Nat.le_add_right, getO, hgd, htk, hlt9, hle9, h09, pC, Int.natCast_add, Int.natCast_one, Int.cast_ofNat_Int, hb1, hb2, pC_all, pC_app, List.length_append]
       refine hC72 _ ?_; clear hC72 C72
       simp only [bL]
       simp only [↓bO, bS, bA, bF, ↓reduceIte, Nat.reduceEqDiff, reduceCtorEq, aAppend, ei121, slIn, slAt, slOf, List.length_map, getO, putO, bL, Nat.reduceAdd, Nat.reduceLeDiff, Int.toNat_natCast, Int.natCast_nonneg, tyX, aReslice, delO, List.filter_cons, List.filter_nil, Nat.reduceBEq, hwl2, hwr2, Nat.lt_add_one, Nat.le_add_right, hgd, htk, hlt9, hle9, h09, pC, Int.natCast_add, Int.natCast_one, Int.cast_ofNat_Int, hb1, hb2, pC_all, pC_app, List.length_append]
       refine ⟨(S3, w0 ++ r3.1), ⟨hst, hJ2.c.trans hs.2.1, hJ2.g.trans hs.2.2.1, by have h9 := hs.2.2.2; have h8 := hls; simp only [List.length_append, List.length_cons, List.length_nil] at h8 ⊢; omega⟩, (by have h8 := hls; simp only [List.length_append, List.length_cons, List.length_nil] at h8 ⊢; omega), ?_⟩
       simp only [maskL, setsL, putsO, putO, List.set_cons_zero, List.set_cons_succ, Nat.reduceEqDiff, ↓reduceIte, List.length_append]
       refine Weak.backOwn 10 12 7 (w0.length + r3.1.length) (by first | omega | (simp only; omega)) (by first | omega | (simp only; omega)) (by first | omega | (simp only; omega)) ?_ ?_ ?_ ?_ ?_
       · simp only [List.set_cons_zero, List.set_cons_succ, LeL, Le.refl, Le.any, and_self]
       ·
        simp only [List.set_cons_zero, List.set_cons_succ]
        repeat' first | exact trivial | exact .any | exact .ptr rfl | exact .own rfl | exact .v _ | (refine ⟨?_, ?_⟩)
       · exact ⟨⟨_, rfl, .row (pC_rows _)⟩, ⟨_, rfl, .cells ⟨.v _, .ptr rfl, .ptr rfl, .own rfl, .v _, trivial⟩⟩, ⟨_, rfl, .cells ⟨.osl rfl (GNode.dataRows _), .map rfl, trivial⟩⟩, ⟨_, rfl, .tok⟩, ⟨_, rfl, .map (vC_data _)⟩, ⟨_, rfl, .cells ⟨.own rfl, .own rfl, .v _, .v _, trivial⟩⟩, ⟨_, rfl, .row (nC_data _)⟩, ⟨_, rfl, .row (iC_data _)⟩, ⟨_, rfl, .row (iC_data _)⟩, trivial⟩
       · repeat' first | exact trivial | exact .any _ | exact .ptr (by omega) | exact .own (by omega) | exact .v _ _ | (refine ⟨?_, ?_⟩)
       · exact ⟨by omega, Und.rowI (pC_rows _), cUnd (by omega) _⟩
     ·
      have hwn : s.2 = [] := by have h9 : ¬ ((s.2.length : Int) > 0) := of_decide_eq_false hb38; exact List.length_eq_zero_iff.1 (by omega)
      have hgood : Good (E ++ [((l.radd m).2.toNat, (u.radd (l.radd m).1).2.toNat)]) (u.radd (l.radd m).1).1 s.1 := ⟨by have h9 := hs.1; rw [hwn, hj.2.1, hj.2.2.1] at h9; exact h9, by rw [hs.2.2.1]; exact hj.1.rel⟩
      refine AWp_exit ?_
      simp only [bF, bA, Nat.reduceEqDiff, ↓reduceIte]
      refine hK44 _ ?_; try clear hK44 K44
      refine AWp_seqK fun K73 hK73 => ?_
      refine AWp_region ?_
      refine aops_chunk 1 fun C74 hC74 => ?_
      simp only [bL, ↓bO, bS, bA, bF, ↓reduceIte, Nat.reduceEqDiff, reduceCtorEq, List.length_map, Nat.reduceAdd, Nat.reduceLeDiff, Int.toNat_natCast, Int.natCast_nonneg, tyX, aReslice, delO, List.filter_cons, List.filter_nil, Nat.reduceBEq]
      refine hC74 _ ?_; clear hC74 C74
      simp only [bL]
      refine aops_chunk 1 fun C75 hC75 => ?_
      simp only [bL, ↓bO, bS, bA, bF, ↓reduceIte, Nat.reduceEqDiff, reduceCtorEq, aCallV, List.length_map, Nat.reduceAdd, Nat.reduceLeDiff, Int.toNat_natCast, Int.natCast_nonneg, tyX, aReslice, delO, List.filter_cons, List.filter_nil, Nat.reduceBEq]
      refine CCalls.at (Err_c s.1) (.nil) (fun _ => .v _) (i0 := 0) (i1 := 1) (i2 := 2) (i3 := 3) (i4 := 4) (i5 := 5) (i6 := 6) (i7 := 7) (by decide) (by simp) ⟨rfl, rfl, rfl, rfl, rfl, rfl, rfl, rfl, trivial⟩ (fun Z9 u9 hZ9 => ?_)
      try dsimp only at hZ9
      simp only [cObsAt, List.zip_cons_cons, List.zip_nil_left, List.zip_nil_right, putsO, putO, Nat.reduceEqDiff, ↓reduceIte]
      subst hZ9
      try simp only [bS, bA, bF]
      refine hC75 _ ?_; clear hC75 C75
      simp only [bL]
      simp only [↓bO, bS, bA, bF, ↓reduceIte, Nat.reduceEqDiff, reduceCtorEq, List.length_map, bL, Nat.reduceAdd, Nat.reduceLeDiff, Int.toNat_natCast, Int.natCast_nonneg, tyX, aReslice, delO, List.filter_cons, List.filter_nil, Nat.reduceBEq]
      refine hK73 _ ?_; try clear hK73 K73
      refine AWp_ret ?_
      try simp only [bF, retQ, aRes, tupOf, bS, bA]
      refine ⟨_, enumO 0 (cObs (s.1)), ⟨(s.1, 0), ?_, rfl, rfl⟩, .v _ _, cUnd (by omega) _, ?_, ?_, by omega⟩
      · exact .inr (.inr ⟨hcs, hlr, hrr, hs.2.2.1.trans hj.2.2.2.2.2.1, .inl ⟨rfl, hs.2.1, hgood⟩⟩)
      ·
       rw [hs.2.1]; exact Le.refl _
      · first | (refine ⟨0, rfl, rfl⟩) | (refine ⟨1, rfl, rfl⟩) | (refine ⟨2, rfl, rfl⟩) | (refine ⟨3, rfl, rfl⟩) | (refine ⟨0, by simp only [cObs, enumO, List.drop_zero, List.drop_succ_cons, Nat.reduceAdd], rfl⟩) | (refine ⟨1, by simp only [cObs, enumO, List.drop_zero, List.drop_succ_cons, Nat.reduceAdd], rfl⟩) | (refine ⟨2, by simp only [cObs, enumO, List.drop_zero, List.drop_succ_cons, Nat.reduceAdd], rfl⟩) | (refine ⟨3, by simp only [cObs, enumO, List.drop_zero, List.drop_succ_cons, Nat.reduceAdd], rfl⟩)
end Go.Proofs.Ytohdoloalolpfaa
namespace Go.Proofs.Ytohdoloalolpfaa
open Go Go.RowKit
set_option maxRecDepth 100000
set_option maxHeartbeats 1000000
set_option linter.unusedSimpArgs false
set_option linter.unusedVariables false
attribute [local irreducible] aops dRun
structure EqT where
  l : Ty
  r : Ty
  a : Int
  b : Int
def EqT.cells (e : EqT) : List AV := [.v (.int .i64 e.l.k), .v (.int .i64 e.l.n), .sl 3 (e.l.ps.map Ty.cells), .v (.int .i64 e.r.k), .v (.int .i64 e.r.n), .sl 3 (e.r.ps.map Ty.cells), .v (.int .i64 e.a), .v (.int .i64 e.b)]
theorem EqT.data (e : EqT) : DataL e.cells := .cons (.v _) (.cons (.v _) (.cons (Ty.dataSl _) (.cons (.v _) (.cons (.v _) (.cons (Ty.dataSl _) (.cons (.v _) (.cons (.v _) .nil)))))))
theorem EqT.dataSl (es : List EqT) : Data (.sl 8 (es.map EqT.cells)) := .sl fun x hx => by
  obtain ⟨y, _, rfl⟩ := List.mem_map.1 hx
  exact y.data
def EqT.p (e : EqT) : Ty × Ty := (e.l, e.r)
def sumP : List (Ty × Ty) → Nat
  | [] => 0
  | e :: l => e.1.cnt + e.2.cnt + sumP l
theorem sumP_snoc : ∀ (l : List (Ty × Ty)) (e : Ty × Ty), sumP (l ++ [e]) = sumP l + (e.1.cnt + e.2.cnt)
  | [], e => by simp [sumP]
  | x :: l, e => by simp only [List.cons_append, sumP, sumP_snoc l e]; omega
theorem sumP_take : ∀ (l : List (Ty × Ty)) (s : Nat), sumP (l.take s) ≤ sumP l
  | [], s => by simp
  | x :: l, 0 => by simp [sumP]
  | x :: l, s + 1 => by simp only [List.take_succ_cons, sumP]; have := sumP_take l s; omega
theorem Holds.step {d : List (Ty × Ty)} {e : Ty × Ty} {S : CS} {s : CS × Int} (h : Holds d S) (hs : EqR S (nat2 (eqF d).2) (eqF d).1 e.1 e.2 s) :
    ((e.1.right && e.2.right) = false ∧ s.2 = 1) ∨ ((e.1.right && e.2.right) = true ∧ Clashes (d ++ [e]) ∧ s.2 = 7) ∨
    ((e.1.right && e.2.right) = true ∧ ¬ Clashes (d ++ [e]) ∧ s.2 = 0 ∧ Holds (d ++ [e]) s.1 ∧ s.1.G.N.length ≤ S.G.N.length + (e.1.cnt + e.2.cnt)) := by
  have hE : (eqF (d ++ [e])).1 = (e.2.radd (e.1.radd (eqF d).1).1).1 ∧ nat2 (eqF (d ++ [e])).2 = nat2 (eqF d).2 ++ [((e.1.radd (eqF d).1).2.toNat, (e.2.radd (e.1.radd (eqF d).1).1).2.toNat)] := by
    rw [eqF_snoc]
    exact ⟨rfl, by simp only [eqStep, nat2, List.map_append, List.map_cons, List.map_nil]⟩
  rcases hs with ⟨h1, _⟩ | ⟨_, h1, h2⟩ | ⟨_, h1, h2, h3, h4⟩
  · rw [h.1] at h1; cases h1
  · exact .inl ⟨h1, by rw [h2]⟩
  · have hr : (e.1.right && e.2.right) = true := by rw [h1, h2]; rfl
    rcases h4 with ⟨h4, h5, h6⟩ | ⟨h4, h5, h6⟩
    · have hH : Holds (d ++ [e]) s.1 := ⟨h5, by rw [hE.1, hE.2]; exact h6⟩
      refine .inr (.inr ⟨hr, hH.noClash, h4, hH, ?_⟩)
      have g1 := e.1.gadd_inv S.G h.2.w.c.g
      have g2 := e.2.gadd_inv _ g1.1.inv
      have := g1.1.le
      have := g2.1.le
      rw [h3]; omega
    · exact .inr (.inl ⟨hr, by unfold Clashes; rw [hE.1, hE.2]; exact h6, h4⟩)
def CS0 : CS := ⟨⟨[], []⟩, ⟨[], [], 0, 0⟩, [], 0, false⟩
theorem Rt.none {i r : Nat} (h : Rt [] i r) : False := by have := h.lt; simp at this
theorem Holds.none : Holds [] CS0 := by
  refine ⟨rfl, ⟨⟨⟨.empty, ⟨rfl, fun _ => 0, ⟨by simp [CS0], by simp [CS0]⟩⟩, rfl, rfl, by simp [CS0], by simp [CS0], by simp [CS0]⟩, by simp, fun i k hik => ?_, by simp, by simp [eqF, nat2], ?_, ?_⟩, .empty⟩⟩
  · rcases hik with rfl | ⟨t, h, _⟩
    · exact .refl _
    · exact (Rt.none h).elim
  · intro r i x c ps h1 h2 h3
    exact (Rt.none h3).elim
  · intro r x h1
    exact (Rt.none h1).elim
end Go.Proofs.Ytohdoloalolpfaa
