import Derived.Test.YtohdoloalolpfaaGr
namespace Go.Proofs.Ytohdoloalolpfaa
open Go Go.RowKit
set_option maxRecDepth 100000
set_option maxHeartbeats 1000000
set_option linter.unusedSimpArgs false
set_option linter.unusedVariables false
attribute [local irreducible] aops dRun
/-- a graph as the program keeps it -/
structure GS where
  N : List GNode
  V : List (Int × Int)
def vfind : List (Int × Int) → Int → Option Int
  | [], _ => none
  | (k, x) :: rest, i => if k = i then some x else vfind rest i
def vset : List (Int × Int) → Int → Int → List (Int × Int)
  | [], k, x => [(k, x)]
  | (k', y) :: rest, k, x => if k' = k then (k, x) :: rest else (k', y) :: vset rest k x
theorem aFind_vC (k : Int) : ∀ V : List (Int × Int), aFind (V.map vC) k = (vfind V k).map fun i => AV.v (.int .i64 i)
  | [] => rfl
  | (a, b) :: V => by simp only [List.map_cons, vC, aFind, vfind]; split <;> simp [aFind_vC k V]
theorem aSet_vC (k x : Int) : ∀ V : List (Int × Int), aSet (V.map vC) k (.v (.int .i64 x)) = (vset V k x).map vC
  | [] => rfl
  | (a, b) :: V => by simp only [List.map_cons, vC, aSet, vset]; split <;> simp [aSet_vC k x V, vC]
theorem vfind_vset (k x : Int) : ∀ V : List (Int × Int), vfind (vset V k x) k = some x
  | [] => by simp [vset, vfind]
  | (a, b) :: V => by simp only [vset]; split <;> simp_all [vfind, vfind_vset k x V]
theorem vfind_mem {k x : Int} : ∀ {V : List (Int × Int)}, vfind V k = some x → (k, x) ∈ V
  | (a, b) :: V, h => by
    simp only [vfind] at h
    split at h
    · rename_i e; cases h; subst e; simp
    · exact List.mem_cons_of_mem _ (vfind_mem h)
theorem vset_mem {k x : Int} {p : Int × Int} : ∀ {V : List (Int × Int)}, p ∈ vset V k x → p = (k, x) ∨ p ∈ V
  | [], h => by simp [vset] at h; exact .inl h
  | (a, b) :: V, h => by
    simp only [vset] at h
    split at h
    · rcases List.mem_cons.1 h with h | h
      · exact .inl h
      · exact .inr (List.mem_cons_of_mem _ h)
    · rcases List.mem_cons.1 h with h | h
      · exact .inr (by simp [h])
      · exact (vset_mem h).imp id (List.mem_cons_of_mem _)
mutual
def Ty.gadd : Ty → GS → GS × Int
  | .mk k n ps, G =>
    if k = 1 then
      match vfind G.V n with
      | some i => (G, i)
      | none => (⟨G.N ++ [⟨k, n, 1, []⟩], vset G.V n G.N.length⟩, G.N.length)
    else
      let r := Ty.gaddL ps G []
      (⟨r.1.N ++ [⟨k, 0, layS r.1.N 1 r.2, r.2⟩], r.1.V⟩, r.1.N.length)
def Ty.gaddL : List Ty → GS → List Int → GS × List Int
  | [], G, l => (G, l)
  | p :: ps, G, l =>
    let r := Ty.gadd p G
    Ty.gaddL ps r.1 (l ++ [r.2])
end
theorem Ty.gadd_var {t : Ty} (h : t.k = 1) (G : GS) : t.gadd G = match vfind G.V t.n with
      | some i => (G, i)
      | none => (⟨G.N ++ [⟨t.k, t.n, 1, []⟩], vset G.V t.n G.N.length⟩, G.N.length) := by
  obtain ⟨k, n, ps⟩ := t
  have h : k = 1 := h
  rw [Ty.gadd, if_pos h]; rfl
theorem Ty.gadd_more {t : Ty} (h : ¬ t.k = 1) (G : GS) : t.gadd G =
    ((⟨(Ty.gaddL t.ps G []).1.N ++ [⟨t.k, 0, layS (Ty.gaddL t.ps G []).1.N 1 (Ty.gaddL t.ps G []).2, (Ty.gaddL t.ps G []).2⟩], (Ty.gaddL t.ps G []).1.V⟩ : GS), ((Ty.gaddL t.ps G []).1.N.length : Int)) := by
  obtain ⟨k, n, ps⟩ := t
  have h : ¬ k = 1 := h
  rw [Ty.gadd, if_neg h]; rfl
theorem Ty.gaddL_append : ∀ (ps qs : List Ty) (G : GS) (l : List Int), Ty.gaddL (ps ++ qs) G l = Ty.gaddL qs (Ty.gaddL ps G l).1 (Ty.gaddL ps G l).2
  | [], qs, G, l => by simp [Ty.gaddL]
  | p :: ps, qs, G, l => by simp [Ty.gaddL, Ty.gaddL_append ps qs]
theorem Ty.gaddL_step {ps : List Ty} {s : Nat} {p : Ty} (hp : ps[s]? = some p) (G : GS) (l : List Int) :
    Ty.gaddL (ps.take (s + 1)) G l = ((p.gadd (Ty.gaddL (ps.take s) G l).1).1, (Ty.gaddL (ps.take s) G l).2 ++ [(p.gadd (Ty.gaddL (ps.take s) G l).1).2]) := by
  rw [List.take_add_one, hp, Ty.gaddL_append]
  simp [Ty.gaddL]
structure GInv (G : GS) : Prop where
  size : ∀ x ∈ G.N, 0 ≤ x.size ∧ x.size ≤ 1099511627776
  vars : ∀ p ∈ G.V, 0 ≤ p.2 ∧ p.2 < G.N.length
/-- what adding does, whatever is added -/
structure GStep (G G' : GS) (n : Nat) : Prop where
  inv : GInv G'
  ge : G.N.length ≤ G'.N.length
  le : G'.N.length ≤ G.N.length + n
theorem Ty.gaddL_inv : ∀ (ps : List Ty) (_ : ∀ p ∈ ps, ∀ G, GInv G → GStep G (p.gadd G).1 p.cnt ∧ 0 ≤ (p.gadd G).2 ∧ (p.gadd G).2 < (p.gadd G).1.N.length) (G : GS) (l : List Int), GInv G → (∀ x ∈ l, 0 ≤ x ∧ x < (G.N.length : Int)) →
    GStep G (Ty.gaddL ps G l).1 (Ty.cntL ps) ∧ (∀ x ∈ (Ty.gaddL ps G l).2, 0 ≤ x ∧ x < ((Ty.gaddL ps G l).1.N.length : Int)) ∧ (Ty.gaddL ps G l).2.length = l.length + ps.length
  | [], _, G, l, h, hl => ⟨⟨h, Nat.le_refl _, by simp [Ty.gaddL]⟩, by simpa [Ty.gaddL] using hl, by simp [Ty.gaddL]⟩
  | p :: ps, hp, G, l, h, hl => by
    obtain ⟨h1, h2, h3⟩ := hp p (by simp) G h
    obtain ⟨h4, h5, h6⟩ := Ty.gaddL_inv ps (fun q hq => hp q (by simp [hq])) (p.gadd G).1 (l ++ [(p.gadd G).2]) h1.inv (fun x hx => by
      rcases List.mem_append.1 hx with hx | hx
      · have := hl x hx; have := h1.ge; omega
      · simp at hx; subst hx; exact ⟨h2, h3⟩)
    simp only [Ty.gaddL, Ty.cntL]
    refine ⟨⟨h4.inv, Nat.le_trans h1.ge h4.ge, ?_⟩, h5, ?_⟩
    · have := h1.le; have := h4.le; omega
    · rw [h6]; simp; omega
theorem Ty.gadd_inv : ∀ (t : Ty) (G : GS), GInv G → GStep G (t.gadd G).1 t.cnt ∧ 0 ≤ (t.gadd G).2 ∧ (t.gadd G).2 < (t.gadd G).1.N.length := by
  refine Ty.ind fun t ih => ?_
  intro G h
  have hc := t.cnt_eq
  by_cases hk : t.k = 1
  · rw [Ty.gadd_var hk]
    cases hf : vfind G.V t.n with
    | some i => exact ⟨⟨h, Nat.le_refl _, by simp only; omega⟩, h.vars _ (vfind_mem hf)⟩
    | none =>
      refine ⟨⟨⟨fun x hx => ?_, fun p hp => ?_⟩, by simp, by simp; omega⟩, by simp, by simp; omega⟩
      · rcases List.mem_append.1 hx with hx | hx
        · exact h.size x hx
        · simp at hx; subst hx; simp
      · simp only [List.length_append, List.length_cons, List.length_nil]
        rcases vset_mem hp with hp | hp
        · subst hp; simp; omega
        · have := h.vars p hp; omega
  · rw [Ty.gadd_more hk]
    obtain ⟨h1, h2, h3⟩ := Ty.gaddL_inv t.ps ih G [] h (by simp)
    refine ⟨⟨⟨fun x hx => ?_, fun p hp => ?_⟩, ?_, ?_⟩, by simp, by simp; omega⟩
    · rcases List.mem_append.1 hx with hx | hx
      · exact h1.inv.size x hx
      · simp at hx; subst hx; exact layS_bound h1.inv.size _ 1 (by omega) (by omega)
    · have := h1.inv.vars p hp
      simp only [List.length_append, List.length_cons, List.length_nil]; omega
    · have := h1.ge; simp; omega
    · have := h1.le; simp; omega
theorem Ty.gaddL_inv0 (ps : List Ty) (G : GS) (h : GInv G) : GStep G (Ty.gaddL ps G []).1 (Ty.cntL ps) ∧ (∀ x ∈ (Ty.gaddL ps G []).2, 0 ≤ x ∧ x < ((Ty.gaddL ps G []).1.N.length : Int)) ∧ (Ty.gaddL ps G []).2.length = ps.length := by
  have := Ty.gaddL_inv ps (fun p _ => p.gadd_inv) G [] h (by simp)
  simpa using this
theorem add_calls : ∀ (T : Ty) (G : GS), GInv G → G.N.length + T.cnt ≤ 1099511627776 → GCalls 56 [.ptr 0 0, .agg T.cells] G.N G.V (.v (.int .i64 (T.gadd G).2)) (T.gadd G).1.N (T.gadd G).1.V := by
  refine Ty.ind fun T ih => ?_
  intro G hG hl
  refine ACalls.clean (C := fun r os => r = _ ∧ os = _) ?_
  refine ACalls_intro Try.func56 (by kernel_rfl) rfl (by rw [Try.ntmps56]; simp) (fun hm => ?_)
  simp only [Try.ntmps56, Try.results56, List.length_cons, List.length_nil, Nat.reduceAdd, Nat.reduceSub, List.replicate_succ, List.replicate_zero, List.cons_append, List.nil_append]
  simp only [gObs, enumO, Nat.reduceAdd]
  simp only [Ty.cells_eq T, List.cons_append, List.nil_append]
  have hm1 := T.cnt_eq
  have hcl := Ty.cntL_len T.ps
  refine AWp_seqK fun K1 hK1 => ?_
  refine AWp_region ?_
  simp only [↓aops, ↓aop, ↓aWant, ↓aVal, bS, bA, AV.flat, AV.cl, AV.one, Value.oneCell', thenQ, blockQ, noGotoQ, ↓reduceIte, Nat.reduceEqDiff, reduceCtorEq, tyX, aFind_vC, aSet_vC, vfind_vset, Option.map_some, Option.getD_some, layS]
  refine hK1 _ ?_
  try clear hK1 K1
  refine AWp_seqK fun K2 hK2 => ?_
  refine AWp_seqK fun K3 hK3 => ?_
  refine AWp_region ?_
  refine aops_chunk 2 fun C4 hC4 => ?_
  simp only [bL, ↓aops, ↓aop, ↓aWant, ↓aVal, bS, bA, AV.flat, AV.cl, AV.one, Value.oneCell', thenQ, blockQ, noGotoQ, ↓reduceIte, Nat.reduceEqDiff, reduceCtorEq, aField, fo32_0, Nat.reduceAdd, aLoad, ti3, getO, pack, Nat.reduceLeDiff, tyX, aFind_vC, aSet_vC, vfind_vset, Option.map_some, Option.getD_some, layS]
  refine hC4 _ ?_
  try clear hC4 C4
  simp only [bL]
  simp only [↓aops, ↓aop, ↓aWant, ↓aVal, bS, bA, AV.flat, AV.cl, AV.one, Value.oneCell', thenQ, blockQ, noGotoQ, ↓reduceIte, Nat.reduceEqDiff, reduceCtorEq, aBin, tyX, aFind_vC, aSet_vC, vfind_vset, Option.map_some, Option.getD_some, layS]
  refine hK3 _ ?_
  try clear hK3 K3
  refine AWp_cond rfl (fun hb12 => ?_) (fun hb12 => ?_)
  · skip
    have hk1 : T.k = 1 := by simpa using hb12
    refine AWp_seqK fun K5 hK5 => ?_
    refine AWp_seqK fun K6 hK6 => ?_
    refine AAny_start [(3, 0, [.v (.int .i64 T.k)]), (3, 1, [.v (.int .i64 T.n)]), (0, 1, [.map 2])] 12 rfl mixed (⟨⟨_, _, rfl, by simp, rfl, trivial, trivial⟩, ⟨_, _, rfl, by simp, rfl, trivial, trivial⟩, ⟨_, _, rfl, by simp, rfl, trivial, trivial⟩, trivial⟩) rfl ?_
    dsimp only
    refine AAny_takeK 0 rfl (by kernel_rfl) (by kernel_rfl) (by kernel_rfl) (fun _ _ h => h) fun K7 hK7 => ?_
    simp only [aQuiet, aHeldLoad, CurL, CurOk, ↓aops, ↓aop, ↓aWant, ↓aVal, bS, bA, AV.flat, AV.cl, AV.one, Value.oneCell', thenQ, blockQ, noGotoQ, ↓reduceIte, Nat.reduceEqDiff, reduceCtorEq, tyX, aFind_vC, aSet_vC, vfind_vset, Option.map_some, Option.getD_some, layS]
    refine hK7 _ ?_
    try clear hK7 K7
    refine AAny_takeK 1 rfl (by kernel_rfl) (by kernel_rfl) (by kernel_rfl) (fun _ _ h => h) fun K8 hK8 => ?_
    simp only [aQuiet, aHeldLoad, CurL, CurOk, ↓aops, ↓aop, ↓aWant, ↓aVal, bS, bA, AV.flat, AV.cl, AV.one, Value.oneCell', thenQ, blockQ, noGotoQ, ↓reduceIte, Nat.reduceEqDiff, reduceCtorEq, tyX, aFind_vC, aSet_vC, vfind_vset, Option.map_some, Option.getD_some, layS]
    refine hK8 _ ?_
    try clear hK8 K8
    refine AAny_takeK 2 rfl (by kernel_rfl) (by kernel_rfl) (by kernel_rfl) (fun _ _ h => h) fun K9 hK9 => ?_
    simp only [aQuiet, aHeldLoad, CurL, CurOk, ↓aops, ↓aop, ↓aWant, ↓aVal, bS, bA, AV.flat, AV.cl, AV.one, Value.oneCell', thenQ, blockQ, noGotoQ, ↓reduceIte, Nat.reduceEqDiff, reduceCtorEq, aField, fo91_1, bL, Nat.reduceAdd, tyX, aFind_vC, aSet_vC, vfind_vset, Option.map_some, Option.getD_some, layS]
    refine hK9 _ ?_
    try clear hK9 K9
    refine AAny_loadK 3 2 rfl rfl (by kernel_rfl) (by kernel_rfl) (by kernel_rfl) (fun _ _ h => h) fun K10 hK10 => ?_
    simp only [aQuiet, aHeldLoad, CurL, CurOk, ↓aops, ↓aop, ↓aWant, ↓aVal, bS, bA, AV.flat, AV.cl, AV.one, Value.oneCell', thenQ, blockQ, noGotoQ, ↓reduceIte, Nat.reduceEqDiff, reduceCtorEq, aLoad, ti89, getO, pack, bL, Nat.reduceAdd, Nat.reduceLeDiff, tyX, aFind_vC, aSet_vC, vfind_vset, Option.map_some, Option.getD_some, layS]
    refine hK10 _ ?_
    try clear hK10 K10
    refine AAny_takeK 4 rfl (by kernel_rfl) (by kernel_rfl) (by kernel_rfl) (fun _ _ h => h) fun K11 hK11 => ?_
    simp only [aQuiet, aHeldLoad, CurL, CurOk, ↓aops, ↓aop, ↓aWant, ↓aVal, bS, bA, AV.flat, AV.cl, AV.one, Value.oneCell', thenQ, blockQ, noGotoQ, ↓reduceIte, Nat.reduceEqDiff, reduceCtorEq, aField, fo32_1, bL, Nat.reduceAdd, tyX, aFind_vC, aSet_vC, vfind_vset, Option.map_some, Option.getD_some, layS]
    refine hK11 _ ?_
    try clear hK11 K11
    refine AAny_loadK 5 1 rfl rfl (by kernel_rfl) (by kernel_rfl) (by kernel_rfl) (fun _ _ h => h) fun K12 hK12 => ?_
    simp only [aQuiet, aHeldLoad, CurL, CurOk, ↓aops, ↓aop, ↓aWant, ↓aVal, bS, bA, AV.flat, AV.cl, AV.one, Value.oneCell', thenQ, blockQ, noGotoQ, ↓reduceIte, Nat.reduceEqDiff, reduceCtorEq, aLoad, ti3, getO, pack, bL, Nat.reduceAdd, Nat.reduceLeDiff, tyX, aFind_vC, aSet_vC, vfind_vset, Option.map_some, Option.getD_some, layS]
    refine hK12 _ ?_
    try clear hK12 K12
    refine AAny_all1 (i := 6) (by kernel_rfl) ?_
    · skip
      refine aAt_op rfl rfl fun K13 hK13 => ?_
      simp only [↓aops, ↓aop, ↓aWant, ↓aVal, bS, bA, AV.flat, AV.cl, AV.one, Value.oneCell', thenQ, blockQ, noGotoQ, ↓reduceIte, Nat.reduceEqDiff, reduceCtorEq, aLookup, mz89, getO, valAV, tyX, aFind_vC, aSet_vC, vfind_vset, Option.map_some, Option.getD_some, layS]
      refine hK13 _ ⟨⟨⟨_, _, rfl, by simp, rfl, trivial, trivial⟩, ⟨_, _, rfl, by simp, rfl, trivial, trivial⟩, ⟨_, _, rfl, by simp, rfl, trivial, trivial⟩, trivial⟩, ?_⟩
      try clear hK13 K13
      refine AAny_takeK 7 rfl (by kernel_rfl) (by kernel_rfl) (by kernel_rfl) (fun _ _ h => h) fun K14 hK14 => ?_
      simp only [aQuiet, aHeldLoad, CurL, CurOk, ↓aops, ↓aop, ↓aWant, ↓aVal, bS, bA, AV.flat, AV.cl, AV.one, Value.oneCell', thenQ, blockQ, noGotoQ, ↓reduceIte, Nat.reduceEqDiff, reduceCtorEq, tyX, aFind_vC, aSet_vC, vfind_vset, Option.map_some, Option.getD_some, layS]
      refine hK14 _ ?_
      try clear hK14 K14
      refine AAny_takeK 8 rfl (by kernel_rfl) (by kernel_rfl) (by kernel_rfl) (fun _ _ h => h) fun K15 hK15 => ?_
      simp only [aQuiet, aHeldLoad, CurL, CurOk, ↓aops, ↓aop, ↓aWant, ↓aVal, bS, bA, AV.flat, AV.cl, AV.one, Value.oneCell', thenQ, blockQ, noGotoQ, ↓reduceIte, Nat.reduceEqDiff, reduceCtorEq, aExtract, bL, Nat.reduceAdd, Nat.reduceLT, Nat.zero_lt_succ, tyX, aFind_vC, aSet_vC, vfind_vset, Option.map_some, Option.getD_some, layS]
      refine hK15 _ ?_
      try clear hK15 K15
      refine AAny_takeK 9 rfl (by kernel_rfl) (by kernel_rfl) (by kernel_rfl) (fun _ _ h => h) fun K16 hK16 => ?_
      simp only [aQuiet, aHeldLoad, CurL, CurOk, ↓aops, ↓aop, ↓aWant, ↓aVal, bS, bA, AV.flat, AV.cl, AV.one, Value.oneCell', thenQ, blockQ, noGotoQ, ↓reduceIte, Nat.reduceEqDiff, reduceCtorEq, aExtract, bL, Nat.reduceAdd, Nat.reduceLT, Nat.zero_lt_succ, tyX, aFind_vC, aSet_vC, vfind_vset, Option.map_some, Option.getD_some, layS]
      refine hK16 _ ?_
      try clear hK16 K16
      refine AAny_takeK 10 rfl (by kernel_rfl) (by kernel_rfl) (by kernel_rfl) (fun _ _ h => h) fun K17 hK17 => ?_
      simp only [aQuiet, aHeldLoad, CurL, CurOk, ↓aops, ↓aop, ↓aWant, ↓aVal, bS, bA, AV.flat, AV.cl, AV.one, Value.oneCell', thenQ, blockQ, noGotoQ, ↓reduceIte, Nat.reduceEqDiff, reduceCtorEq, tyX, aFind_vC, aSet_vC, vfind_vset, Option.map_some, Option.getD_some, layS]
      refine hK17 _ ?_
      try clear hK17 K17
      refine AAny_takeK 11 rfl (by kernel_rfl) (by kernel_rfl) (by kernel_rfl) (fun _ _ h => h) fun K18 hK18 => ?_
      simp only [aQuiet, aHeldLoad, CurL, CurOk, ↓aops, ↓aop, ↓aWant, ↓aVal, bS, bA, AV.flat, AV.cl, AV.one, Value.oneCell', thenQ, blockQ, noGotoQ, ↓reduceIte, Nat.reduceEqDiff, reduceCtorEq, tyX, aFind_vC, aSet_vC, vfind_vset, Option.map_some, Option.getD_some, layS]
      refine hK18 _ ?_
      try clear hK18 K18
      refine AAny_done (by kernel_rfl) ?_
      simp only [thenQ, blockQ, noGotoQ]
      refine hK6 _ ?_
      try clear hK6 K6
      refine AWp_seqK fun K19 hK19 => ?_
      refine AWp_region ?_
      simp only [↓aops, ↓aop, ↓aWant, ↓aVal, bS, bA, AV.flat, AV.cl, AV.one, Value.oneCell', thenQ, blockQ, noGotoQ, ↓reduceIte, Nat.reduceEqDiff, reduceCtorEq, tyX, aFind_vC, aSet_vC, vfind_vset, Option.map_some, Option.getD_some, layS]
      refine hK19 _ ?_
      try clear hK19 K19
      refine AWp_cond rfl (fun hb23 => ?_) (fun hb23 => ?_)
      · skip
        refine AWp_seqK fun K20 hK20 => ?_
        refine AWp_region ?_
        simp only [↓aops, ↓aop, ↓aWant, ↓aVal, bS, bA, AV.flat, AV.cl, AV.one, Value.oneCell', thenQ, blockQ, noGotoQ, ↓reduceIte, Nat.reduceEqDiff, reduceCtorEq, tyX, aFind_vC, aSet_vC, vfind_vset, Option.map_some, Option.getD_some, layS]
        refine hK20 _ ?_
        try clear hK20 K20
        refine AWp_ret ?_
        try simp only [thenQ, blockQ, noGotoQ, retQ, aRes, tupOf, bS, bA]
        obtain ⟨i, hf⟩ : ∃ i, vfind G.V T.n = some i := by
          cases hf : vfind G.V T.n with
          | none => rw [hf] at hb23; cases hb23
          | some i => exact ⟨i, rfl⟩
        have hg : T.gadd G = (G, i) := by rw [Ty.gadd_var hk1, hf]
        rw [hg, hf]
        refine ⟨_, enumO 0 (gObs (G.N) (G.V)), ⟨rfl, rfl⟩, .v _ _, gUnd (by omega) _ _, ?_, ?_, by omega⟩
        · refine Le.of_eq ?_
          rfl
        · first | (refine ⟨1, ?_, rfl⟩; first | rfl | (simp only [gObs, enumO, List.drop_succ_cons, List.drop_zero, List.map_append, List.map_cons, List.map_nil, List.length_append, List.length_cons, List.length_nil, GNode.cells, List.take_length, Nat.reduceAdd, Nat.zero_add]; done))
      · skip
        refine AWp_skip ?_
        try simp only [thenQ, blockQ, noGotoQ]
        refine hK5 _ ?_
        try clear hK5 K5
        refine AWp_seqK fun K21 hK21 => ?_
        refine AAny_start [(3, 0, [.v (.int .i64 T.k)]), (3, 1, [.v (.int .i64 T.n)]), (0, 1, [.map 2])] 14 rfl mixed (⟨⟨_, _, rfl, by simp, rfl, trivial, trivial⟩, ⟨_, _, rfl, by simp, rfl, trivial, trivial⟩, ⟨_, _, rfl, by simp, rfl, trivial, trivial⟩, trivial⟩) rfl ?_
        dsimp only
        refine AAny_takeK 0 rfl (by kernel_rfl) (by kernel_rfl) (by kernel_rfl) (fun _ _ h => h) fun K22 hK22 => ?_
        simp only [aQuiet, aHeldLoad, CurL, CurOk, ↓aops, ↓aop, ↓aWant, ↓aVal, bS, bA, AV.flat, AV.cl, AV.one, Value.oneCell', thenQ, blockQ, noGotoQ, ↓reduceIte, Nat.reduceEqDiff, reduceCtorEq, tyX, aFind_vC, aSet_vC, vfind_vset, Option.map_some, Option.getD_some, layS]
        refine hK22 _ ?_
        try clear hK22 K22
        refine AAny_takeK 1 rfl (by kernel_rfl) (by kernel_rfl) (by kernel_rfl) (fun _ _ h => h) fun K23 hK23 => ?_
        simp only [aQuiet, aHeldLoad, CurL, CurOk, ↓aops, ↓aop, ↓aWant, ↓aVal, bS, bA, AV.flat, AV.cl, AV.one, Value.oneCell', thenQ, blockQ, noGotoQ, ↓reduceIte, Nat.reduceEqDiff, reduceCtorEq, tyX, aFind_vC, aSet_vC, vfind_vset, Option.map_some, Option.getD_some, layS]
        refine hK23 _ ?_
        try clear hK23 K23
        refine AAny_takeK 2 rfl (by kernel_rfl) (by kernel_rfl) (by kernel_rfl) (fun _ _ h => h) fun K24 hK24 => ?_
        simp only [aQuiet, aHeldLoad, CurL, CurOk, ↓aops, ↓aop, ↓aWant, ↓aVal, bS, bA, AV.flat, AV.cl, AV.one, Value.oneCell', thenQ, blockQ, noGotoQ, ↓reduceIte, Nat.reduceEqDiff, reduceCtorEq, aField, fo91_1, bL, Nat.reduceAdd, tyX, aFind_vC, aSet_vC, vfind_vset, Option.map_some, Option.getD_some, layS]
        refine hK24 _ ?_
        try clear hK24 K24
        refine AAny_loadK 3 2 rfl rfl (by kernel_rfl) (by kernel_rfl) (by kernel_rfl) (fun _ _ h => h) fun K25 hK25 => ?_
        simp only [aQuiet, aHeldLoad, CurL, CurOk, ↓aops, ↓aop, ↓aWant, ↓aVal, bS, bA, AV.flat, AV.cl, AV.one, Value.oneCell', thenQ, blockQ, noGotoQ, ↓reduceIte, Nat.reduceEqDiff, reduceCtorEq, aLoad, ti89, getO, pack, bL, Nat.reduceAdd, Nat.reduceLeDiff, tyX, aFind_vC, aSet_vC, vfind_vset, Option.map_some, Option.getD_some, layS]
        refine hK25 _ ?_
        try clear hK25 K25
        refine AAny_takeK 4 rfl (by kernel_rfl) (by kernel_rfl) (by kernel_rfl) (fun _ _ h => h) fun K26 hK26 => ?_
        simp only [aQuiet, aHeldLoad, CurL, CurOk, ↓aops, ↓aop, ↓aWant, ↓aVal, bS, bA, AV.flat, AV.cl, AV.one, Value.oneCell', thenQ, blockQ, noGotoQ, ↓reduceIte, Nat.reduceEqDiff, reduceCtorEq, aField, fo32_1, bL, Nat.reduceAdd, tyX, aFind_vC, aSet_vC, vfind_vset, Option.map_some, Option.getD_some, layS]
        refine hK26 _ ?_
        try clear hK26 K26
        refine AAny_loadK 5 1 rfl rfl (by kernel_rfl) (by kernel_rfl) (by kernel_rfl) (fun _ _ h => h) fun K27 hK27 => ?_
        simp only [aQuiet, aHeldLoad, CurL, CurOk, ↓aops, ↓aop, ↓aWant, ↓aVal, bS, bA, AV.flat, AV.cl, AV.one, Value.oneCell', thenQ, blockQ, noGotoQ, ↓reduceIte, Nat.reduceEqDiff, reduceCtorEq, aLoad, ti3, getO, pack, bL, Nat.reduceAdd, Nat.reduceLeDiff, tyX, aFind_vC, aSet_vC, vfind_vset, Option.map_some, Option.getD_some, layS]
        refine hK27 _ ?_
        try clear hK27 K27
        refine AAny_takeK 6 rfl (by kernel_rfl) (by kernel_rfl) (by kernel_rfl) (fun _ _ h => h) fun K28 hK28 => ?_
        simp only [aQuiet, aHeldLoad, CurL, CurOk, ↓aops, ↓aop, ↓aWant, ↓aVal, bS, bA, AV.flat, AV.cl, AV.one, Value.oneCell', thenQ, blockQ, noGotoQ, ↓reduceIte, Nat.reduceEqDiff, reduceCtorEq, tyX, aFind_vC, aSet_vC, vfind_vset, Option.map_some, Option.getD_some, layS]
        refine hK28 _ ?_
        try clear hK28 K28
        refine AAny_takeK 7 rfl (by kernel_rfl) (by kernel_rfl) (by kernel_rfl) (fun _ _ h => h) fun K29 hK29 => ?_
        simp only [aQuiet, aHeldLoad, CurL, CurOk, ↓aops, ↓aop, ↓aWant, ↓aVal, bS, bA, AV.flat, AV.cl, AV.one, Value.oneCell', thenQ, blockQ, noGotoQ, ↓reduceIte, Nat.reduceEqDiff, reduceCtorEq, aField, fo32_0, bL, Nat.reduceAdd, tyX, aFind_vC, aSet_vC, vfind_vset, Option.map_some, Option.getD_some, layS]
        refine hK29 _ ?_
        try clear hK29 K29
        refine AAny_loadK 8 0 rfl rfl (by kernel_rfl) (by kernel_rfl) (by kernel_rfl) (fun _ _ h => h) fun K30 hK30 => ?_
        simp only [aQuiet, aHeldLoad, CurL, CurOk, ↓aops, ↓aop, ↓aWant, ↓aVal, bS, bA, AV.flat, AV.cl, AV.one, Value.oneCell', thenQ, blockQ, noGotoQ, ↓reduceIte, Nat.reduceEqDiff, reduceCtorEq, aLoad, ti3, getO, pack, bL, Nat.reduceAdd, Nat.reduceLeDiff, tyX, aFind_vC, aSet_vC, vfind_vset, Option.map_some, Option.getD_some, layS]
        refine hK30 _ ?_
        try clear hK30 K30
        refine AAny_takeK 9 rfl (by kernel_rfl) (by kernel_rfl) (by kernel_rfl) (fun _ _ h => h) fun K31 hK31 => ?_
        simp only [aQuiet, aHeldLoad, CurL, CurOk, ↓aops, ↓aop, ↓aWant, ↓aVal, bS, bA, AV.flat, AV.cl, AV.one, Value.oneCell', thenQ, blockQ, noGotoQ, ↓reduceIte, Nat.reduceEqDiff, reduceCtorEq, aField, fo32_1, bL, Nat.reduceAdd, tyX, aFind_vC, aSet_vC, vfind_vset, Option.map_some, Option.getD_some, layS]
        refine hK31 _ ?_
        try clear hK31 K31
        refine AAny_loadK 10 1 rfl rfl (by kernel_rfl) (by kernel_rfl) (by kernel_rfl) (fun _ _ h => h) fun K32 hK32 => ?_
        simp only [aQuiet, aHeldLoad, CurL, CurOk, ↓aops, ↓aop, ↓aWant, ↓aVal, bS, bA, AV.flat, AV.cl, AV.one, Value.oneCell', thenQ, blockQ, noGotoQ, ↓reduceIte, Nat.reduceEqDiff, reduceCtorEq, aLoad, ti3, getO, pack, bL, Nat.reduceAdd, Nat.reduceLeDiff, tyX, aFind_vC, aSet_vC, vfind_vset, Option.map_some, Option.getD_some, layS]
        refine hK32 _ ?_
        try clear hK32 K32
        refine AAny_all1 (i := 11) (by kernel_rfl) ?_
        · skip
          refine aAt_op rfl rfl fun K33 hK33 => ?_
          simp only [↓aops, ↓aop, ↓aWant, ↓aVal, bS, bA, AV.flat, AV.cl, AV.one, Value.oneCell', thenQ, blockQ, noGotoQ, ↓reduceIte, Nat.reduceEqDiff, reduceCtorEq, aBuild, zc87, pc87, aFill, splice, bL, Nat.reduceAdd, Nat.reduceLeDiff, tyX, aFind_vC, aSet_vC, vfind_vset, Option.map_some, Option.getD_some, layS]
          refine hK33 _ ⟨⟨⟨_, _, rfl, by simp, rfl, trivial, trivial⟩, ⟨_, _, rfl, by simp, rfl, trivial, trivial⟩, ⟨_, _, rfl, by simp, rfl, trivial, trivial⟩, trivial⟩, ?_⟩
          try clear hK33 K33
          refine AAny_all1 (i := 12) (by kernel_rfl) ?_
          · skip
            refine aAt_op rfl rfl fun K34 hK34 => ?_
            simp only [↓aops, ↓aop, ↓aWant, ↓aVal, bS, bA, AV.flat, AV.cl, AV.one, Value.oneCell', thenQ, blockQ, noGotoQ, ↓reduceIte, Nat.reduceEqDiff, reduceCtorEq, aCallV, bL, tyX, aFind_vC, aSet_vC, vfind_vset, Option.map_some, Option.getD_some, layS]
            refine ACalls.args (args' := [.ptr 0 0, .agg (GNode.cells ⟨T.k, T.n, 0, []⟩)]) ⟨.refl _, Le.agg ⟨.refl _, .refl _, .refl _, Le.slNil 1, trivial⟩, trivial⟩ ?_
            refine GCalls.at (lay_calls G.N G.V ⟨T.k, T.n, 0, []⟩ hG.size (by omega) (by simp) (by simp)) (.cons (.agg (GNode.data _)) .nil) (.v _) (i := 0) (j := 1) (k := 2) rfl rfl rfl (by decide) (by decide) (by decide) (by first | omega | (simp only; omega)) (by first | omega | (simp only; omega)) (by first | omega | (simp only; omega)) ?_
            simp only [putO, Nat.reduceEqDiff, ↓reduceIte]
            try simp only [bS, bA]
            refine hK34 _ ⟨⟨⟨_, _, rfl, by simp, rfl, trivial, trivial⟩, ⟨_, _, rfl, by simp, rfl, trivial, trivial⟩, ⟨_, _, rfl, by simp, rfl, trivial, trivial⟩, trivial⟩, ?_⟩
            try clear hK34 K34
            refine AAny_all1 (i := 13) (by kernel_rfl) ?_
            · skip
              refine aAt_op rfl rfl fun K35 hK35 => ?_
              simp only [↓aops, ↓aop, ↓aWant, ↓aVal, bS, bA, AV.flat, AV.cl, AV.one, Value.oneCell', thenQ, blockQ, noGotoQ, ↓reduceIte, Nat.reduceEqDiff, reduceCtorEq, aMapUpd, mz89, getO, putO, tyX, aFind_vC, aSet_vC, vfind_vset, Option.map_some, Option.getD_some, layS]
              refine hK35 _ ⟨⟨⟨_, _, rfl, by simp, rfl, trivial, trivial⟩, ⟨_, _, rfl, by simp, rfl, trivial, trivial⟩, ⟨_, _, rfl, by simp, rfl, trivial, trivial⟩, trivial⟩, ?_⟩
              try clear hK35 K35
              refine AAny_done (by kernel_rfl) ?_
              simp only [thenQ, blockQ, noGotoQ]
              refine hK21 _ ?_
              try clear hK21 K21
              refine AWp_seqK fun K36 hK36 => ?_
              refine AWp_drawK 7 mixed (by kernel_rfl) fun K37 hK37 => ?_
              simp only [bL]
              refine dRun_chunk 2 fun C38 hC38 => ?_
              simp only [bL, ↓dRun, ↓dOp, ↓aops, ↓aop, ↓aWant, ↓aVal, bS, bA, AV.flat, AV.cl, AV.one, Value.oneCell', thenQ, blockQ, noGotoQ, ↓reduceIte, Nat.reduceEqDiff, reduceCtorEq, tyX, aFind_vC, aSet_vC, vfind_vset, Option.map_some, Option.getD_some, layS]
              refine hC38 _ ?_
              try clear hC38 C38
              simp only [bL]
              refine dRun_chunk 2 fun C39 hC39 => ?_
              simp only [bL, ↓dRun, ↓dOp, ↓aops, ↓aop, ↓aWant, ↓aVal, bS, bA, AV.flat, AV.cl, AV.one, Value.oneCell', thenQ, blockQ, noGotoQ, ↓reduceIte, Nat.reduceEqDiff, reduceCtorEq, aField, fo91_1, Nat.reduceAdd, aLoad, ti89, getO, pack, Nat.reduceLeDiff, tyX, aFind_vC, aSet_vC, vfind_vset, Option.map_some, Option.getD_some, layS]
              refine hC39 _ ?_
              try clear hC39 C39
              simp only [bL]
              refine dRun_chunk 2 fun C40 hC40 => ?_
              simp only [bL, ↓dRun, ↓dOp, ↓aops, ↓aop, ↓aWant, ↓aVal, bS, bA, AV.flat, AV.cl, AV.one, Value.oneCell', thenQ, blockQ, noGotoQ, ↓reduceIte, Nat.reduceEqDiff, reduceCtorEq, aField, fo32_1, Nat.reduceAdd, aLoad, ti3, getO, pack, Nat.reduceLeDiff, tyX, aFind_vC, aSet_vC, vfind_vset, Option.map_some, Option.getD_some, layS]
              refine hC40 _ ?_
              try clear hC40 C40
              simp only [bL]
              simp only [↓dRun, ↓dOp, bL, ↓aops, ↓aop, ↓aWant, ↓aVal, bS, bA, AV.flat, AV.cl, AV.one, Value.oneCell', thenQ, blockQ, noGotoQ, ↓reduceIte, Nat.reduceEqDiff, reduceCtorEq, aLookup, mz89, getO, valAV, tyX, aFind_vC, aSet_vC, vfind_vset, Option.map_some, Option.getD_some, layS]
              refine hK37 _ ?_
              try clear hK37 K37
              simp only [bL]
              simp only [↓aops, ↓aop, ↓aWant, ↓aVal, bS, bA, AV.flat, AV.cl, AV.one, Value.oneCell', thenQ, blockQ, noGotoQ, ↓reduceIte, Nat.reduceEqDiff, reduceCtorEq, tyX, aFind_vC, aSet_vC, vfind_vset, Option.map_some, Option.getD_some, layS]
              refine hK36 _ ?_
              try clear hK36 K36
              refine AWp_ret ?_
              try simp only [thenQ, blockQ, noGotoQ, retQ, aRes, tupOf, bS, bA]
              have hf : vfind G.V T.n = none := by
                cases hf : vfind G.V T.n with
                | none => rfl
                | some i => rw [hf] at hb23; cases hb23
              have hg : T.gadd G = ((⟨G.N ++ [⟨T.k, T.n, 1, []⟩], vset G.V T.n G.N.length⟩ : GS), (G.N.length : Int)) := by rw [Ty.gadd_var hk1, hf]
              rw [hg]
              refine ⟨_, enumO 0 (gObs (G.N ++ [⟨T.k, T.n, 1, []⟩]) (vset G.V T.n G.N.length)), ⟨rfl, rfl⟩, .v _ _, gUnd (by omega) _ _, ?_, ?_, by omega⟩
              · refine Le.of_eq ?_
                rfl
              · first | (refine ⟨1, ?_, rfl⟩; first | rfl | (simp only [gObs, enumO, List.drop_succ_cons, List.drop_zero, List.map_append, List.map_cons, List.map_nil, List.length_append, List.length_cons, List.length_nil, GNode.cells, List.take_length, Nat.reduceAdd, Nat.zero_add]; done))
  · skip
    have hk1 : ¬ T.k = 1 := by simpa using hb12
    refine AWp_skip ?_
    try simp only [thenQ, blockQ, noGotoQ]
    refine hK2 _ ?_
    try clear hK2 K2
    refine AWp_seqK fun K41 hK41 => ?_
    refine AWp_region ?_
    refine aops_chunk 2 fun C42 hC42 => ?_
    simp only [bL, ↓aops, ↓aop, ↓aWant, ↓aVal, bS, bA, AV.flat, AV.cl, AV.one, Value.oneCell', thenQ, blockQ, noGotoQ, ↓reduceIte, Nat.reduceEqDiff, reduceCtorEq, aField, fo32_0, Nat.reduceAdd, aLoad, ti3, getO, pack, Nat.reduceLeDiff, tyX, aFind_vC, aSet_vC, vfind_vset, Option.map_some, Option.getD_some, layS]
    refine hC42 _ ?_
    try clear hC42 C42
    simp only [bL]
    refine aops_chunk 2 fun C43 hC43 => ?_
    simp only [bL, ↓aops, ↓aop, ↓aWant, ↓aVal, bS, bA, AV.flat, AV.cl, AV.one, Value.oneCell', thenQ, blockQ, noGotoQ, ↓reduceIte, Nat.reduceEqDiff, reduceCtorEq, aBuild, zc87, pc87, aFill, splice, Nat.reduceAdd, Nat.reduceLeDiff, tyX, aFind_vC, aSet_vC, vfind_vset, Option.map_some, Option.getD_some, layS]
    refine hC43 _ ?_
    try clear hC43 C43
    simp only [bL]
    simp only [↓aops, ↓aop, ↓aWant, ↓aVal, bS, bA, AV.flat, AV.cl, AV.one, Value.oneCell', thenQ, blockQ, noGotoQ, ↓reduceIte, Nat.reduceEqDiff, reduceCtorEq, aStore, ti87, getO, putO, splice, bL, Nat.reduceAdd, Nat.reduceLeDiff, tyX, aFind_vC, aSet_vC, vfind_vset, Option.map_some, Option.getD_some, layS]
    refine hK41 _ ?_
    try clear hK41 K41
    refine AWp_seqK fun K44 hK44 => ?_
    refine AWp_seqK fun K45 hK45 => ?_
    refine AWp_region ?_
    refine aops_chunk 2 fun C46 hC46 => ?_
    simp only [bL, ↓aops, ↓aop, ↓aWant, ↓aVal, bS, bA, AV.flat, AV.cl, AV.one, Value.oneCell', thenQ, blockQ, noGotoQ, ↓reduceIte, Nat.reduceEqDiff, reduceCtorEq, aField, fo32_2, Nat.reduceAdd, aLoad, ti22, getO, pack, Nat.reduceLeDiff, tyX, aFind_vC, aSet_vC, vfind_vset, Option.map_some, Option.getD_some, layS]
    refine hC46 _ ?_
    try clear hC46 C46
    simp only [bL]
    simp only [↓aops, ↓aop, ↓aWant, ↓aVal, bS, bA, AV.flat, AV.cl, AV.one, Value.oneCell', thenQ, blockQ, noGotoQ, ↓reduceIte, Nat.reduceEqDiff, reduceCtorEq, getO, aLenX, aLen, ln22, List.length_map, tyX, aFind_vC, aSet_vC, vfind_vset, Option.map_some, Option.getD_some, layS]
    refine hK45 _ ?_
    try clear hK45 K45
    refine AWp_block ?_
    refine AWp_weak (Weak.tokCell 3 1 (id := 4) (t := 87) [.v (.int .i64 T.k), .v (.int .i64 0), .v (.int .i64 0), .osl 5 1 []] rfl ⟨.inl (.refl _), .inl (.refl _), .inl (.refl _), .inr ⟨rfl, rfl⟩, trivial⟩) ?_
    simp only [putO, Nat.reduceEqDiff, ↓reduceIte]
    refine AWp_loopM (σ := Nat) [true, false, false, false, false, false, false, true, false, false, false, false, false, false, false, false, false, false, false, false, false, false, false, false, false, false, false, false, false, false, false, false, false, false, false, false, false, false, false, false, false, false, false, false, false, false, false, false, false, true, true, true, false, false, false, false, false, false, false, false, false, false, false, false, false, false, false] (fun s => s ≤ T.ps.length) (fun s => [(51, .v (.int .i64 (s : Int)))]) (fun s => [(0, .cells 91 [.osl 1 4 ((Ty.gaddL (T.ps.take s) G []).1.N.map GNode.cells), .map 2]), (1, .tok 87 4 (Ty.gaddL (T.ps.take s) G []).1.N.length), (2, .map ((Ty.gaddL (T.ps.take s) G []).1.V.map vC)), (4, .cells 87 [.v (.int .i64 T.k), .v (.int .i64 0), .v (.int .i64 0), .osl 5 1 ((Ty.gaddL (T.ps.take s) G []).2.map intC)]), (5, .tok 3 1 s)]) (fun s => T.ps.length - s) 0 (by omega) ?_ (fun s hs => ?_)
    · skip
      simp only [maskL, setsL, putsO, putO, bA, Nat.reduceEqDiff, ↓reduceIte, bL, Ty.gaddL]
      exact Weak.mk (by simp only [LeL, Le.refl, Le.any, Le.slNil, and_self, Int.natCast_add, Int.cast_ofNat_Int, Int.natCast_one]) (fun _ _ h => h) rfl rfl
    simp only [maskL, setsL, putsO, putO, bA, Nat.reduceEqDiff, ↓reduceIte]
    refine AWp_seqK fun K47 hK47 => ?_
    refine AWp_region ?_
    simp only [↓aops, ↓aop, ↓aWant, ↓aVal, bS, bA, AV.flat, AV.cl, AV.one, Value.oneCell', thenQ, blockQ, noGotoQ, ↓reduceIte, Nat.reduceEqDiff, reduceCtorEq, aBin, tyX, aFind_vC, aSet_vC, vfind_vset, Option.map_some, Option.getD_some, layS]
    refine hK47 _ ?_
    try clear hK47 K47
    refine AWp_seqK fun K48 hK48 => ?_
    refine AWp_cond rfl (fun hb52 => ?_) (fun hb52 => ?_)
    · skip
      have hk : s < T.ps.length := by simpa using hb52
      obtain ⟨p, hp⟩ : ∃ p, T.ps[s]? = some p := ⟨_, List.getElem?_eq_getElem hk⟩
      have hpm := List.mem_of_getElem? hp
      have hpc := Ty.cntL_step hp
      obtain ⟨hi1, hi2, hi3⟩ := Ty.gaddL_inv0 (T.ps.take s) G hG
      have hi4 := hi1.le
      have hln : (Ty.gaddL (T.ps.take s) G []).2.length = s := by rw [hi3]; simp; omega
      have hw : IntKind.i64.wrap ((s : Int) + 1) = (s : Int) + 1 := wrap_in (by omega) (by omega)
      have hb1 : (s + 1) * 8 ≤ 140737488355328 := by omega
      have hb2 : s + 1 ≤ maxLen := by simp only [maxLen]; omega
      refine AWp_skip ?_
      try simp only [thenQ, blockQ, noGotoQ]
      refine hK48 _ ?_
      try clear hK48 K48
      refine AWp_seqK fun K49 hK49 => ?_
      refine AWp_block ?_
      refine AWp_seqK fun K50 hK50 => ?_
      refine AWp_region ?_
      refine aops_chunk 2 fun C51 hC51 => ?_
      simp only [bL, ↓aops, ↓aop, ↓aWant, ↓aVal, bS, bA, AV.flat, AV.cl, AV.one, Value.oneCell', thenQ, blockQ, noGotoQ, ↓reduceIte, Nat.reduceEqDiff, reduceCtorEq, getO, aIndexA, es22, Int.natCast_nonneg, Int.ofNat_lt, Int.toNat_natCast, List.length_map, Int.le_refl, Int.toNat_zero, Int.toNat_one, Int.reduceLE, aLoad, ti32, pack, Nat.reduceAdd, Nat.reduceLeDiff, tyX, aFind_vC, aSet_vC, vfind_vset, Option.map_some, Option.getD_some, layS, hk, getD_map_cells hp, Int.natCast_add, Int.natCast_one, hw, hln, hb1, hb2, List.map_append, Ty.gaddL_step hp G []]
      refine hC51 _ ?_
      try clear hC51 C51
      simp only [bL]
      simp only [↓aops, ↓aop, ↓aWant, ↓aVal, bS, bA, AV.flat, AV.cl, AV.one, Value.oneCell', thenQ, blockQ, noGotoQ, ↓reduceIte, Nat.reduceEqDiff, reduceCtorEq, zc32, bL, aStore, ti32, getO, putO, splice, Nat.reduceAdd, Nat.reduceLeDiff, tyX, aFind_vC, aSet_vC, vfind_vset, Option.map_some, Option.getD_some, layS, hk, getD_map_cells hp, Int.natCast_add, Int.natCast_one, hw, hln, hb1, hb2, List.map_append, Ty.gaddL_step hp G []]
      refine hK50 _ ?_
      try clear hK50 K50
      refine AAny_start [] 9 rfl mixed (trivial) rfl ?_
      dsimp only
      refine AAny_takeK 0 rfl (by kernel_rfl) (by kernel_rfl) (by kernel_rfl) (fun _ _ h => h) fun K52 hK52 => ?_
      simp only [aQuiet, aHeldLoad, CurL, CurOk, ↓aops, ↓aop, ↓aWant, ↓aVal, bS, bA, AV.flat, AV.cl, AV.one, Value.oneCell', thenQ, blockQ, noGotoQ, ↓reduceIte, Nat.reduceEqDiff, reduceCtorEq, aField, fo87_3, bL, Nat.reduceAdd, tyX, aFind_vC, aSet_vC, vfind_vset, Option.map_some, Option.getD_some, layS, hk, getD_map_cells hp, Int.natCast_add, Int.natCast_one, hw, hln, hb1, hb2, List.map_append, Ty.gaddL_step hp G []]
      refine hK52 _ ?_
      try clear hK52 K52
      refine AAny_takeK 2 rfl (by kernel_rfl) (by kernel_rfl) (by kernel_rfl) (fun _ _ h => h) fun K53 hK53 => ?_
      simp only [aQuiet, aHeldLoad, CurL, CurOk, ↓aops, ↓aop, ↓aWant, ↓aVal, bS, bA, AV.flat, AV.cl, AV.one, Value.oneCell', thenQ, blockQ, noGotoQ, ↓reduceIte, Nat.reduceEqDiff, reduceCtorEq, tyX, aFind_vC, aSet_vC, vfind_vset, Option.map_some, Option.getD_some, layS, hk, getD_map_cells hp, Int.natCast_add, Int.natCast_one, hw, hln, hb1, hb2, List.map_append, bL, Ty.gaddL_step hp G []]
      refine hK53 _ ?_
      try clear hK53 K53
      refine AAny_all2 (i := 1) (j := 3) (by kernel_rfl) ?_ ?_
      · skip
        refine aAt_op rfl rfl fun K54 hK54 => ?_
        simp only [↓aops, ↓aop, ↓aWant, ↓aVal, bS, bA, AV.flat, AV.cl, AV.one, Value.oneCell', thenQ, blockQ, noGotoQ, ↓reduceIte, Nat.reduceEqDiff, reduceCtorEq, aLoad, ti28, getO, pack, bL, Nat.reduceAdd, Nat.reduceLeDiff, tyX, aFind_vC, aSet_vC, vfind_vset, Option.map_some, Option.getD_some, layS, hk, getD_map_cells hp, Int.natCast_add, Int.natCast_one, hw, hln, hb1, hb2, List.map_append, Ty.gaddL_step hp G []]
        refine hK54 _ ⟨trivial, ?_⟩
        try clear hK54 K54
        refine AAny_all1 (i := 3) (by kernel_rfl) ?_
        · skip
          refine aAt_op rfl rfl fun K55 hK55 => ?_
          simp only [↓aops, ↓aop, ↓aWant, ↓aVal, bS, bA, AV.flat, AV.cl, AV.one, Value.oneCell', thenQ, blockQ, noGotoQ, ↓reduceIte, Nat.reduceEqDiff, reduceCtorEq, aLoad, ti32, getO, pack, bL, Nat.reduceAdd, Nat.reduceLeDiff, tyX, aFind_vC, aSet_vC, vfind_vset, Option.map_some, Option.getD_some, layS, hk, getD_map_cells hp, Int.natCast_add, Int.natCast_one, hw, hln, hb1, hb2, List.map_append, Ty.gaddL_step hp G []]
          refine hK55 _ ⟨trivial, ?_⟩
          try clear hK55 K55
          refine AAny_all1 (i := 4) (by kernel_rfl) ?_
          · skip
            refine aAt_op rfl rfl fun K56 hK56 => ?_
            simp only [↓aops, ↓aop, ↓aWant, ↓aVal, bS, bA, AV.flat, AV.cl, AV.one, Value.oneCell', thenQ, blockQ, noGotoQ, ↓reduceIte, Nat.reduceEqDiff, reduceCtorEq, aCallV, bL, tyX, aFind_vC, aSet_vC, vfind_vset, Option.map_some, Option.getD_some, layS, hk, getD_map_cells hp, Int.natCast_add, Int.natCast_one, hw, hln, hb1, hb2, List.map_append, Ty.gaddL_step hp G []]
            refine GCalls.at (ih p hpm (Ty.gaddL (T.ps.take s) G []).1 hi1.inv (by omega)) (.cons (Ty.dataAgg p) .nil) (.v _) (i := 0) (j := 1) (k := 2) rfl rfl rfl (by decide) (by decide) (by decide) (by first | omega | (simp only; omega)) (by first | omega | (simp only; omega)) (by first | omega | (simp only; omega)) ?_
            simp only [putO, Nat.reduceEqDiff, ↓reduceIte]
            try simp only [bS, bA]
            refine hK56 _ ⟨trivial, ?_⟩
            try clear hK56 K56
            refine AAny_all1 (i := 5) (by kernel_rfl) ?_
            · skip
              refine aAt_op rfl rfl fun K57 hK57 => ?_
              simp only [↓aops, ↓aop, ↓aWant, ↓aVal, bS, bA, AV.flat, AV.cl, AV.one, Value.oneCell', thenQ, blockQ, noGotoQ, ↓reduceIte, Nat.reduceEqDiff, reduceCtorEq, ↓bs1_1, ↓bs1_2, ↓bs1_3, ↓bs1_4, ↓bs1_5, ↓bs1_6, ↓bs1_7, ↓bs1_8, ↓bs1_9, ↓bs1_10, ↓bs1_11, ↓bs1_12, aBuildSl, ei28, ia3, bL, List.range_succ, List.range_zero, List.forall_mem_cons, List.not_mem_nil, false_imp_iff, implies_true, Nat.reduceAdd, Nat.reduceLeDiff, forall_eq, List.mem_singleton, tyX, aFind_vC, aSet_vC, vfind_vset, Option.map_some, Option.getD_some, layS, hk, getD_map_cells hp, Int.natCast_add, Int.natCast_one, hw, hln, hb1, hb2, List.map_append, Ty.gaddL_step hp G []]
              refine hK57 _ ⟨trivial, ?_⟩
              try clear hK57 K57
              refine AAny_all1 (i := 6) (by kernel_rfl) ?_
              · skip
                refine aAt_op rfl rfl fun K58 hK58 => ?_
                simp only [↓aops, ↓aop, ↓aWant, ↓aVal, bS, bA, AV.flat, AV.cl, AV.one, Value.oneCell', thenQ, blockQ, noGotoQ, ↓reduceIte, Nat.reduceEqDiff, reduceCtorEq, aAppend, ei28, slIn, slAt, slOf, List.length_map, getO, putO, bL, Nat.reduceAdd, tyX, aFind_vC, aSet_vC, vfind_vset, Option.map_some, Option.getD_some, layS, hk, getD_map_cells hp, Int.natCast_add, Int.natCast_one, hw, hln, hb1, hb2, List.map_append, Ty.gaddL_step hp G []]
                refine hK58 _ ⟨trivial, ?_⟩
                try clear hK58 K58
                refine AAny_takeK 7 rfl (by kernel_rfl) (by kernel_rfl) (by kernel_rfl) (fun _ _ h => h) fun K59 hK59 => ?_
                simp only [aQuiet, aHeldLoad, CurL, CurOk, ↓aops, ↓aop, ↓aWant, ↓aVal, bS, bA, AV.flat, AV.cl, AV.one, Value.oneCell', thenQ, blockQ, noGotoQ, ↓reduceIte, Nat.reduceEqDiff, reduceCtorEq, aField, fo87_3, bL, Nat.reduceAdd, tyX, aFind_vC, aSet_vC, vfind_vset, Option.map_some, Option.getD_some, layS, hk, getD_map_cells hp, Int.natCast_add, Int.natCast_one, hw, hln, hb1, hb2, List.map_append, Ty.gaddL_step hp G []]
                refine hK59 _ ?_
                try clear hK59 K59
                refine AAny_all1 (i := 8) (by kernel_rfl) ?_
                · skip
                  refine aAt_op rfl rfl fun K60 hK60 => ?_
                  simp only [↓aops, ↓aop, ↓aWant, ↓aVal, bS, bA, AV.flat, AV.cl, AV.one, Value.oneCell', thenQ, blockQ, noGotoQ, ↓reduceIte, Nat.reduceEqDiff, reduceCtorEq, aStore, ti28, getO, putO, splice, bL, Nat.reduceAdd, Nat.reduceLeDiff, tyX, aFind_vC, aSet_vC, vfind_vset, Option.map_some, Option.getD_some, layS, hk, getD_map_cells hp, Int.natCast_add, Int.natCast_one, hw, hln, hb1, hb2, List.map_append, Ty.gaddL_step hp G []]
                  refine hK60 _ ⟨trivial, ?_⟩
                  try clear hK60 K60
                  refine AAny_done (by kernel_rfl) ?_
                  simp only [thenQ, blockQ, noGotoQ]
                  refine hK49 _ ?_
                  try clear hK49 K49
                  refine AWp_region ?_
                  simp only [↓aops, ↓aop, ↓aWant, ↓aVal, bS, bA, AV.flat, AV.cl, AV.one, Value.oneCell', thenQ, blockQ, noGotoQ, ↓reduceIte, Nat.reduceEqDiff, reduceCtorEq, aBin, tyX, aFind_vC, aSet_vC, vfind_vset, Option.map_some, Option.getD_some, layS, hk, getD_map_cells hp, Int.natCast_add, Int.natCast_one, hw, hln, hb1, hb2, List.map_append, bL, Ty.gaddL_step hp G []]
                  refine ⟨(s + 1), (by omega), by omega, ?_⟩
                  simp only [maskL, setsL, putsO, putO, bA, Nat.reduceEqDiff, ↓reduceIte, hk, getD_map_cells hp, Int.natCast_add, Int.natCast_one, hw, hln, hb1, hb2, List.map_append, bL, Ty.gaddL_step hp G []]
                  first | (refine Weak.drops 1 6 rfl rfl (by simp only; omega) (by simp only; omega) ?_ ?_ ?_) | (refine Weak.drops 0 6 rfl rfl (by simp only; omega) (by simp only; omega) ?_ ?_ ?_)
                  · simp only [LeL, Le.refl, Le.any, and_self, Int.natCast_add, Int.cast_ofNat_Int, Int.natCast_one]
                  · simp only [UndL, UndOs, Ob.Und, and_true, true_and, and_self, Und.v, Und.any, Und.ptr, Und.map, Nat.reduceLT, Nat.zero_lt_succ, Und.tys, Und.tyAgg, Und.oslTys, Und.oslTys1, Und.clo0, Und.ty, Und.oslG, Und.oslI, Und.oslI1, Und.oslI2, Und.mapG]
                  · simp only [UndL, UndOs, Ob.Und, and_true, true_and, and_self, Und.v, Und.any, Und.ptr, Und.map, Nat.reduceLT, Nat.zero_lt_succ, Und.tys, Und.tyAgg, Und.oslTys, Und.oslTys1, Und.clo0, Und.ty, Und.oslG, Und.oslI, Und.oslI1, Und.oslI2, Und.mapG]
      · skip
        refine aAt_op rfl rfl fun K61 hK61 => ?_
        simp only [↓aops, ↓aop, ↓aWant, ↓aVal, bS, bA, AV.flat, AV.cl, AV.one, Value.oneCell', thenQ, blockQ, noGotoQ, ↓reduceIte, Nat.reduceEqDiff, reduceCtorEq, aLoad, ti32, getO, pack, bL, Nat.reduceAdd, Nat.reduceLeDiff, tyX, aFind_vC, aSet_vC, vfind_vset, Option.map_some, Option.getD_some, layS, hk, getD_map_cells hp, Int.natCast_add, Int.natCast_one, hw, hln, hb1, hb2, List.map_append, Ty.gaddL_step hp G []]
        refine hK61 _ ⟨trivial, ?_⟩
        try clear hK61 K61
        refine AAny_all2 (i := 1) (j := 4) (by kernel_rfl) ?_ ?_
        · skip
          refine aAt_op rfl rfl fun K62 hK62 => ?_
          simp only [↓aops, ↓aop, ↓aWant, ↓aVal, bS, bA, AV.flat, AV.cl, AV.one, Value.oneCell', thenQ, blockQ, noGotoQ, ↓reduceIte, Nat.reduceEqDiff, reduceCtorEq, aLoad, ti28, getO, pack, bL, Nat.reduceAdd, Nat.reduceLeDiff, tyX, aFind_vC, aSet_vC, vfind_vset, Option.map_some, Option.getD_some, layS, hk, getD_map_cells hp, Int.natCast_add, Int.natCast_one, hw, hln, hb1, hb2, List.map_append, Ty.gaddL_step hp G []]
          refine hK62 _ ⟨trivial, ?_⟩
          try clear hK62 K62
          refine AAny_all1 (i := 4) (by kernel_rfl) ?_
          · skip
            refine aAt_op rfl rfl fun K63 hK63 => ?_
            simp only [↓aops, ↓aop, ↓aWant, ↓aVal, bS, bA, AV.flat, AV.cl, AV.one, Value.oneCell', thenQ, blockQ, noGotoQ, ↓reduceIte, Nat.reduceEqDiff, reduceCtorEq, aCallV, bL, tyX, aFind_vC, aSet_vC, vfind_vset, Option.map_some, Option.getD_some, layS, hk, getD_map_cells hp, Int.natCast_add, Int.natCast_one, hw, hln, hb1, hb2, List.map_append, Ty.gaddL_step hp G []]
            refine GCalls.at (ih p hpm (Ty.gaddL (T.ps.take s) G []).1 hi1.inv (by omega)) (.cons (Ty.dataAgg p) .nil) (.v _) (i := 0) (j := 1) (k := 2) rfl rfl rfl (by decide) (by decide) (by decide) (by first | omega | (simp only; omega)) (by first | omega | (simp only; omega)) (by first | omega | (simp only; omega)) ?_
            simp only [putO, Nat.reduceEqDiff, ↓reduceIte]
            try simp only [bS, bA]
            refine hK63 _ ⟨trivial, ?_⟩
            try clear hK63 K63
            refine AAny_all1 (i := 5) (by kernel_rfl) ?_
            · skip
              refine aAt_op rfl rfl fun K64 hK64 => ?_
              simp only [↓aops, ↓aop, ↓aWant, ↓aVal, bS, bA, AV.flat, AV.cl, AV.one, Value.oneCell', thenQ, blockQ, noGotoQ, ↓reduceIte, Nat.reduceEqDiff, reduceCtorEq, ↓bs1_1, ↓bs1_2, ↓bs1_3, ↓bs1_4, ↓bs1_5, ↓bs1_6, ↓bs1_7, ↓bs1_8, ↓bs1_9, ↓bs1_10, ↓bs1_11, ↓bs1_12, aBuildSl, ei28, ia3, bL, List.range_succ, List.range_zero, List.forall_mem_cons, List.not_mem_nil, false_imp_iff, implies_true, Nat.reduceAdd, Nat.reduceLeDiff, forall_eq, List.mem_singleton, tyX, aFind_vC, aSet_vC, vfind_vset, Option.map_some, Option.getD_some, layS, hk, getD_map_cells hp, Int.natCast_add, Int.natCast_one, hw, hln, hb1, hb2, List.map_append, Ty.gaddL_step hp G []]
              refine hK64 _ ⟨trivial, ?_⟩
              try clear hK64 K64
              refine AAny_all1 (i := 6) (by kernel_rfl) ?_
              · skip
                refine aAt_op rfl rfl fun K65 hK65 => ?_
                simp only [↓aops, ↓aop, ↓aWant, ↓aVal, bS, bA, AV.flat, AV.cl, AV.one, Value.oneCell', thenQ, blockQ, noGotoQ, ↓reduceIte, Nat.reduceEqDiff, reduceCtorEq, aAppend, ei28, slIn, slAt, slOf, List.length_map, getO, putO, bL, Nat.reduceAdd, tyX, aFind_vC, aSet_vC, vfind_vset, Option.map_some, Option.getD_some, layS, hk, getD_map_cells hp, Int.natCast_add, Int.natCast_one, hw, hln, hb1, hb2, List.map_append, Ty.gaddL_step hp G []]
                refine hK65 _ ⟨trivial, ?_⟩
                try clear hK65 K65
                refine AAny_takeK 7 rfl (by kernel_rfl) (by kernel_rfl) (by kernel_rfl) (fun _ _ h => h) fun K66 hK66 => ?_
                simp only [aQuiet, aHeldLoad, CurL, CurOk, ↓aops, ↓aop, ↓aWant, ↓aVal, bS, bA, AV.flat, AV.cl, AV.one, Value.oneCell', thenQ, blockQ, noGotoQ, ↓reduceIte, Nat.reduceEqDiff, reduceCtorEq, aField, fo87_3, bL, Nat.reduceAdd, tyX, aFind_vC, aSet_vC, vfind_vset, Option.map_some, Option.getD_some, layS, hk, getD_map_cells hp, Int.natCast_add, Int.natCast_one, hw, hln, hb1, hb2, List.map_append, Ty.gaddL_step hp G []]
                refine hK66 _ ?_
                try clear hK66 K66
                refine AAny_all1 (i := 8) (by kernel_rfl) ?_
                · skip
                  refine aAt_op rfl rfl fun K67 hK67 => ?_
                  simp only [↓aops, ↓aop, ↓aWant, ↓aVal, bS, bA, AV.flat, AV.cl, AV.one, Value.oneCell', thenQ, blockQ, noGotoQ, ↓reduceIte, Nat.reduceEqDiff, reduceCtorEq, aStore, ti28, getO, putO, splice, bL, Nat.reduceAdd, Nat.reduceLeDiff, tyX, aFind_vC, aSet_vC, vfind_vset, Option.map_some, Option.getD_some, layS, hk, getD_map_cells hp, Int.natCast_add, Int.natCast_one, hw, hln, hb1, hb2, List.map_append, Ty.gaddL_step hp G []]
                  refine hK67 _ ⟨trivial, ?_⟩
                  try clear hK67 K67
                  refine AAny_done (by kernel_rfl) ?_
                  simp only [thenQ, blockQ, noGotoQ]
                  refine hK49 _ ?_
                  try clear hK49 K49
                  refine AWp_region ?_
                  simp only [↓aops, ↓aop, ↓aWant, ↓aVal, bS, bA, AV.flat, AV.cl, AV.one, Value.oneCell', thenQ, blockQ, noGotoQ, ↓reduceIte, Nat.reduceEqDiff, reduceCtorEq, aBin, tyX, aFind_vC, aSet_vC, vfind_vset, Option.map_some, Option.getD_some, layS, hk, getD_map_cells hp, Int.natCast_add, Int.natCast_one, hw, hln, hb1, hb2, List.map_append, bL, Ty.gaddL_step hp G []]
                  refine ⟨(s + 1), (by omega), by omega, ?_⟩
                  simp only [maskL, setsL, putsO, putO, bA, Nat.reduceEqDiff, ↓reduceIte, hk, getD_map_cells hp, Int.natCast_add, Int.natCast_one, hw, hln, hb1, hb2, List.map_append, bL, Ty.gaddL_step hp G []]
                  first | (refine Weak.drops 1 6 rfl rfl (by simp only; omega) (by simp only; omega) ?_ ?_ ?_) | (refine Weak.drops 0 6 rfl rfl (by simp only; omega) (by simp only; omega) ?_ ?_ ?_)
                  · simp only [LeL, Le.refl, Le.any, and_self, Int.natCast_add, Int.cast_ofNat_Int, Int.natCast_one]
                  · simp only [UndL, UndOs, Ob.Und, and_true, true_and, and_self, Und.v, Und.any, Und.ptr, Und.map, Nat.reduceLT, Nat.zero_lt_succ, Und.tys, Und.tyAgg, Und.oslTys, Und.oslTys1, Und.clo0, Und.ty, Und.oslG, Und.oslI, Und.oslI1, Und.oslI2, Und.mapG]
                  · simp only [UndL, UndOs, Ob.Und, and_true, true_and, and_self, Und.v, Und.any, Und.ptr, Und.map, Nat.reduceLT, Nat.zero_lt_succ, Und.tys, Und.tyAgg, Und.oslTys, Und.oslTys1, Und.clo0, Und.ty, Und.oslG, Und.oslI, Und.oslI1, Und.oslI2, Und.mapG]
        · skip
          refine aAt_op rfl rfl fun K68 hK68 => ?_
          simp only [↓aops, ↓aop, ↓aWant, ↓aVal, bS, bA, AV.flat, AV.cl, AV.one, Value.oneCell', thenQ, blockQ, noGotoQ, ↓reduceIte, Nat.reduceEqDiff, reduceCtorEq, aCallV, bL, tyX, aFind_vC, aSet_vC, vfind_vset, Option.map_some, Option.getD_some, layS, hk, getD_map_cells hp, Int.natCast_add, Int.natCast_one, hw, hln, hb1, hb2, List.map_append, Ty.gaddL_step hp G []]
          refine GCalls.at (ih p hpm (Ty.gaddL (T.ps.take s) G []).1 hi1.inv (by omega)) (.cons (Ty.dataAgg p) .nil) (.v _) (i := 0) (j := 1) (k := 2) rfl rfl rfl (by decide) (by decide) (by decide) (by first | omega | (simp only; omega)) (by first | omega | (simp only; omega)) (by first | omega | (simp only; omega)) ?_
          simp only [putO, Nat.reduceEqDiff, ↓reduceIte]
          try simp only [bS, bA]
          refine hK68 _ ⟨trivial, ?_⟩
          try clear hK68 K68
          refine AAny_all2 (i := 1) (j := 5) (by kernel_rfl) ?_ ?_
          · skip
            refine aAt_op rfl rfl fun K69 hK69 => ?_
            simp only [↓aops, ↓aop, ↓aWant, ↓aVal, bS, bA, AV.flat, AV.cl, AV.one, Value.oneCell', thenQ, blockQ, noGotoQ, ↓reduceIte, Nat.reduceEqDiff, reduceCtorEq, aLoad, ti28, getO, pack, bL, Nat.reduceAdd, Nat.reduceLeDiff, tyX, aFind_vC, aSet_vC, vfind_vset, Option.map_some, Option.getD_some, layS, hk, getD_map_cells hp, Int.natCast_add, Int.natCast_one, hw, hln, hb1, hb2, List.map_append, Ty.gaddL_step hp G []]
            refine hK69 _ ⟨trivial, ?_⟩
            try clear hK69 K69
            refine AAny_all1 (i := 5) (by kernel_rfl) ?_
            · skip
              refine aAt_op rfl rfl fun K70 hK70 => ?_
              simp only [↓aops, ↓aop, ↓aWant, ↓aVal, bS, bA, AV.flat, AV.cl, AV.one, Value.oneCell', thenQ, blockQ, noGotoQ, ↓reduceIte, Nat.reduceEqDiff, reduceCtorEq, ↓bs1_1, ↓bs1_2, ↓bs1_3, ↓bs1_4, ↓bs1_5, ↓bs1_6, ↓bs1_7, ↓bs1_8, ↓bs1_9, ↓bs1_10, ↓bs1_11, ↓bs1_12, aBuildSl, ei28, ia3, bL, List.range_succ, List.range_zero, List.forall_mem_cons, List.not_mem_nil, false_imp_iff, implies_true, Nat.reduceAdd, Nat.reduceLeDiff, forall_eq, List.mem_singleton, tyX, aFind_vC, aSet_vC, vfind_vset, Option.map_some, Option.getD_some, layS, hk, getD_map_cells hp, Int.natCast_add, Int.natCast_one, hw, hln, hb1, hb2, List.map_append, Ty.gaddL_step hp G []]
              refine hK70 _ ⟨trivial, ?_⟩
              try clear hK70 K70
              refine AAny_all1 (i := 6) (by kernel_rfl) ?_
              · skip
                refine aAt_op rfl rfl fun K71 hK71 => ?_
                simp only [↓aops, ↓aop, ↓aWant, ↓aVal, bS, bA, AV.flat, AV.cl, AV.one, Value.oneCell', thenQ, blockQ, noGotoQ, ↓reduceIte, Nat.reduceEqDiff, reduceCtorEq, aAppend, ei28, slIn, slAt, slOf, List.length_map, getO, putO, bL, Nat.reduceAdd, tyX, aFind_vC, aSet_vC, vfind_vset, Option.map_some, Option.getD_some, layS, hk, getD_map_cells hp, Int.natCast_add, Int.natCast_one, hw, hln, hb1, hb2, List.map_append, Ty.gaddL_step hp G []]
                refine hK71 _ ⟨trivial, ?_⟩
                try clear hK71 K71
                refine AAny_takeK 7 rfl (by kernel_rfl) (by kernel_rfl) (by kernel_rfl) (fun _ _ h => h) fun K72 hK72 => ?_
                simp only [aQuiet, aHeldLoad, CurL, CurOk, ↓aops, ↓aop, ↓aWant, ↓aVal, bS, bA, AV.flat, AV.cl, AV.one, Value.oneCell', thenQ, blockQ, noGotoQ, ↓reduceIte, Nat.reduceEqDiff, reduceCtorEq, aField, fo87_3, bL, Nat.reduceAdd, tyX, aFind_vC, aSet_vC, vfind_vset, Option.map_some, Option.getD_some, layS, hk, getD_map_cells hp, Int.natCast_add, Int.natCast_one, hw, hln, hb1, hb2, List.map_append, Ty.gaddL_step hp G []]
                refine hK72 _ ?_
                try clear hK72 K72
                refine AAny_all1 (i := 8) (by kernel_rfl) ?_
                · skip
                  refine aAt_op rfl rfl fun K73 hK73 => ?_
                  simp only [↓aops, ↓aop, ↓aWant, ↓aVal, bS, bA, AV.flat, AV.cl, AV.one, Value.oneCell', thenQ, blockQ, noGotoQ, ↓reduceIte, Nat.reduceEqDiff, reduceCtorEq, aStore, ti28, getO, putO, splice, bL, Nat.reduceAdd, Nat.reduceLeDiff, tyX, aFind_vC, aSet_vC, vfind_vset, Option.map_some, Option.getD_some, layS, hk, getD_map_cells hp, Int.natCast_add, Int.natCast_one, hw, hln, hb1, hb2, List.map_append, Ty.gaddL_step hp G []]
                  refine hK73 _ ⟨trivial, ?_⟩
                  try clear hK73 K73
                  refine AAny_done (by kernel_rfl) ?_
                  simp only [thenQ, blockQ, noGotoQ]
                  refine hK49 _ ?_
                  try clear hK49 K49
                  refine AWp_region ?_
                  simp only [↓aops, ↓aop, ↓aWant, ↓aVal, bS, bA, AV.flat, AV.cl, AV.one, Value.oneCell', thenQ, blockQ, noGotoQ, ↓reduceIte, Nat.reduceEqDiff, reduceCtorEq, aBin, tyX, aFind_vC, aSet_vC, vfind_vset, Option.map_some, Option.getD_some, layS, hk, getD_map_cells hp, Int.natCast_add, Int.natCast_one, hw, hln, hb1, hb2, List.map_append, bL, Ty.gaddL_step hp G []]
                  refine ⟨(s + 1), (by omega), by omega, ?_⟩
                  simp only [maskL, setsL, putsO, putO, bA, Nat.reduceEqDiff, ↓reduceIte, hk, getD_map_cells hp, Int.natCast_add, Int.natCast_one, hw, hln, hb1, hb2, List.map_append, bL, Ty.gaddL_step hp G []]
                  first | (refine Weak.drops 1 6 rfl rfl (by simp only; omega) (by simp only; omega) ?_ ?_ ?_) | (refine Weak.drops 0 6 rfl rfl (by simp only; omega) (by simp only; omega) ?_ ?_ ?_)
                  · simp only [LeL, Le.refl, Le.any, and_self, Int.natCast_add, Int.cast_ofNat_Int, Int.natCast_one]
                  · simp only [UndL, UndOs, Ob.Und, and_true, true_and, and_self, Und.v, Und.any, Und.ptr, Und.map, Nat.reduceLT, Nat.zero_lt_succ, Und.tys, Und.tyAgg, Und.oslTys, Und.oslTys1, Und.clo0, Und.ty, Und.oslG, Und.oslI, Und.oslI1, Und.oslI2, Und.mapG]
                  · simp only [UndL, UndOs, Ob.Und, and_true, true_and, and_self, Und.v, Und.any, Und.ptr, Und.map, Nat.reduceLT, Nat.zero_lt_succ, Und.tys, Und.tyAgg, Und.oslTys, Und.oslTys1, Und.clo0, Und.ty, Und.oslG, Und.oslI, Und.oslI1, Und.oslI2, Und.mapG]
          · skip
            refine aAt_op rfl rfl fun K74 hK74 => ?_
            simp only [↓aops, ↓aop, ↓aWant, ↓aVal, bS, bA, AV.flat, AV.cl, AV.one, Value.oneCell', thenQ, blockQ, noGotoQ, ↓reduceIte, Nat.reduceEqDiff, reduceCtorEq, ↓bs1_1, ↓bs1_2, ↓bs1_3, ↓bs1_4, ↓bs1_5, ↓bs1_6, ↓bs1_7, ↓bs1_8, ↓bs1_9, ↓bs1_10, ↓bs1_11, ↓bs1_12, aBuildSl, ei28, ia3, bL, List.range_succ, List.range_zero, List.forall_mem_cons, List.not_mem_nil, false_imp_iff, implies_true, Nat.reduceAdd, Nat.reduceLeDiff, forall_eq, List.mem_singleton, tyX, aFind_vC, aSet_vC, vfind_vset, Option.map_some, Option.getD_some, layS, hk, getD_map_cells hp, Int.natCast_add, Int.natCast_one, hw, hln, hb1, hb2, List.map_append, Ty.gaddL_step hp G []]
            refine hK74 _ ⟨trivial, ?_⟩
            try clear hK74 K74
            refine AAny_all1 (i := 1) (by kernel_rfl) ?_
            · skip
              refine aAt_op rfl rfl fun K75 hK75 => ?_
              simp only [↓aops, ↓aop, ↓aWant, ↓aVal, bS, bA, AV.flat, AV.cl, AV.one, Value.oneCell', thenQ, blockQ, noGotoQ, ↓reduceIte, Nat.reduceEqDiff, reduceCtorEq, aLoad, ti28, getO, pack, bL, Nat.reduceAdd, Nat.reduceLeDiff, tyX, aFind_vC, aSet_vC, vfind_vset, Option.map_some, Option.getD_some, layS, hk, getD_map_cells hp, Int.natCast_add, Int.natCast_one, hw, hln, hb1, hb2, List.map_append, Ty.gaddL_step hp G []]
              refine hK75 _ ⟨trivial, ?_⟩
              try clear hK75 K75
              refine AAny_all1 (i := 6) (by kernel_rfl) ?_
              · skip
                refine aAt_op rfl rfl fun K76 hK76 => ?_
                simp only [↓aops, ↓aop, ↓aWant, ↓aVal, bS, bA, AV.flat, AV.cl, AV.one, Value.oneCell', thenQ, blockQ, noGotoQ, ↓reduceIte, Nat.reduceEqDiff, reduceCtorEq, aAppend, ei28, slIn, slAt, slOf, List.length_map, getO, putO, bL, Nat.reduceAdd, tyX, aFind_vC, aSet_vC, vfind_vset, Option.map_some, Option.getD_some, layS, hk, getD_map_cells hp, Int.natCast_add, Int.natCast_one, hw, hln, hb1, hb2, List.map_append, Ty.gaddL_step hp G []]
                refine hK76 _ ⟨trivial, ?_⟩
                try clear hK76 K76
                refine AAny_takeK 7 rfl (by kernel_rfl) (by kernel_rfl) (by kernel_rfl) (fun _ _ h => h) fun K77 hK77 => ?_
                simp only [aQuiet, aHeldLoad, CurL, CurOk, ↓aops, ↓aop, ↓aWant, ↓aVal, bS, bA, AV.flat, AV.cl, AV.one, Value.oneCell', thenQ, blockQ, noGotoQ, ↓reduceIte, Nat.reduceEqDiff, reduceCtorEq, aField, fo87_3, bL, Nat.reduceAdd, tyX, aFind_vC, aSet_vC, vfind_vset, Option.map_some, Option.getD_some, layS, hk, getD_map_cells hp, Int.natCast_add, Int.natCast_one, hw, hln, hb1, hb2, List.map_append, Ty.gaddL_step hp G []]
                refine hK77 _ ?_
                try clear hK77 K77
                refine AAny_all1 (i := 8) (by kernel_rfl) ?_
                · skip
                  refine aAt_op rfl rfl fun K78 hK78 => ?_
                  simp only [↓aops, ↓aop, ↓aWant, ↓aVal, bS, bA, AV.flat, AV.cl, AV.one, Value.oneCell', thenQ, blockQ, noGotoQ, ↓reduceIte, Nat.reduceEqDiff, reduceCtorEq, aStore, ti28, getO, putO, splice, bL, Nat.reduceAdd, Nat.reduceLeDiff, tyX, aFind_vC, aSet_vC, vfind_vset, Option.map_some, Option.getD_some, layS, hk, getD_map_cells hp, Int.natCast_add, Int.natCast_one, hw, hln, hb1, hb2, List.map_append, Ty.gaddL_step hp G []]
                  refine hK78 _ ⟨trivial, ?_⟩
                  try clear hK78 K78
                  refine AAny_done (by kernel_rfl) ?_
                  simp only [thenQ, blockQ, noGotoQ]
                  refine hK49 _ ?_
                  try clear hK49 K49
                  refine AWp_region ?_
                  simp only [↓aops, ↓aop, ↓aWant, ↓aVal, bS, bA, AV.flat, AV.cl, AV.one, Value.oneCell', thenQ, blockQ, noGotoQ, ↓reduceIte, Nat.reduceEqDiff, reduceCtorEq, aBin, tyX, aFind_vC, aSet_vC, vfind_vset, Option.map_some, Option.getD_some, layS, hk, getD_map_cells hp, Int.natCast_add, Int.natCast_one, hw, hln, hb1, hb2, List.map_append, bL, Ty.gaddL_step hp G []]
                  refine ⟨(s + 1), (by omega), by omega, ?_⟩
                  simp only [maskL, setsL, putsO, putO, bA, Nat.reduceEqDiff, ↓reduceIte, hk, getD_map_cells hp, Int.natCast_add, Int.natCast_one, hw, hln, hb1, hb2, List.map_append, bL, Ty.gaddL_step hp G []]
                  first | (refine Weak.drops 1 6 rfl rfl (by simp only; omega) (by simp only; omega) ?_ ?_ ?_) | (refine Weak.drops 0 6 rfl rfl (by simp only; omega) (by simp only; omega) ?_ ?_ ?_)
                  · simp only [LeL, Le.refl, Le.any, and_self, Int.natCast_add, Int.cast_ofNat_Int, Int.natCast_one]
                  · simp only [UndL, UndOs, Ob.Und, and_true, true_and, and_self, Und.v, Und.any, Und.ptr, Und.map, Nat.reduceLT, Nat.zero_lt_succ, Und.tys, Und.tyAgg, Und.oslTys, Und.oslTys1, Und.clo0, Und.ty, Und.oslG, Und.oslI, Und.oslI1, Und.oslI2, Und.mapG]
                  · simp only [UndL, UndOs, Ob.Und, and_true, true_and, and_self, Und.v, Und.any, Und.ptr, Und.map, Nat.reduceLT, Nat.zero_lt_succ, Und.tys, Und.tyAgg, Und.oslTys, Und.oslTys1, Und.clo0, Und.ty, Und.oslG, Und.oslI, Und.oslI1, Und.oslI2, Und.mapG]
    · skip
      have hk : s = T.ps.length := by simp at hb52; omega
      refine AWp_exit ?_
      simp only [thenQ, blockQ, noGotoQ, bA, Nat.reduceEqDiff, ↓reduceIte]
      refine hK44 _ ?_
      try clear hK44 K44
      have hk9 : s = T.ps.length := hk
      subst hk9
      rw [List.take_length]
      obtain ⟨hi1, hi2, hi3⟩ := Ty.gaddL_inv0 T.ps G hG
      have hi4 := hi1.le
      refine AWp_seqK fun K79 hK79 => ?_
      refine AWp_region ?_
      refine aops_chunk 2 fun C80 hC80 => ?_
      simp only [bL, ↓aops, ↓aop, ↓aWant, ↓aVal, bS, bA, AV.flat, AV.cl, AV.one, Value.oneCell', thenQ, blockQ, noGotoQ, ↓reduceIte, Nat.reduceEqDiff, reduceCtorEq, aLoad, ti87, getO, pack, Nat.reduceAdd, Nat.reduceLeDiff, tyX, aFind_vC, aSet_vC, vfind_vset, Option.map_some, Option.getD_some, layS]
      refine hC80 _ ?_
      try clear hC80 C80
      simp only [bL]
      refine aops_chunk 1 fun C81 hC81 => ?_
      simp only [bL, ↓aops, ↓aop, ↓aWant, ↓aVal, bS, bA, AV.flat, AV.cl, AV.one, Value.oneCell', thenQ, blockQ, noGotoQ, ↓reduceIte, Nat.reduceEqDiff, reduceCtorEq, aCallV, tyX, aFind_vC, aSet_vC, vfind_vset, Option.map_some, Option.getD_some, layS]
      refine ACalls.args (args' := [.ptr 0 0, .agg (GNode.cells ⟨T.k, 0, 0, (Ty.gaddL T.ps G []).2⟩)]) ⟨.refl _, Le.agg ⟨.refl _, .refl _, .refl _, Le.oslL, trivial⟩, trivial⟩ ?_
      refine GCalls.at (lay_calls (Ty.gaddL T.ps G []).1.N (Ty.gaddL T.ps G []).1.V ⟨T.k, 0, 0, (Ty.gaddL T.ps G []).2⟩ hi1.inv.size (by omega) (by simp only; omega) hi2) (.cons (.agg (GNode.data _)) .nil) (.v _) (i := 0) (j := 1) (k := 2) rfl rfl rfl (by decide) (by decide) (by decide) (by first | omega | (simp only; omega)) (by first | omega | (simp only; omega)) (by first | omega | (simp only; omega)) ?_
      simp only [putO, Nat.reduceEqDiff, ↓reduceIte]
      try simp only [bS, bA, thenQ, blockQ, noGotoQ]
      refine hC81 _ ?_
      try clear hC81 C81
      simp only [bL]
      simp only [↓aops, ↓aop, ↓aWant, ↓aVal, bS, bA, AV.flat, AV.cl, AV.one, Value.oneCell', thenQ, blockQ, noGotoQ, ↓reduceIte, Nat.reduceEqDiff, reduceCtorEq, tyX, aFind_vC, aSet_vC, vfind_vset, Option.map_some, Option.getD_some, layS]
      refine hK79 _ ?_
      try clear hK79 K79
      refine AWp_ret ?_
      try simp only [thenQ, blockQ, noGotoQ, retQ, aRes, tupOf, bS, bA]
      rw [Ty.gadd_more hk1 G]
      refine ⟨_, enumO 0 (gObs ((Ty.gaddL T.ps G []).1.N ++ [⟨T.k, 0, layS (Ty.gaddL T.ps G []).1.N 1 (Ty.gaddL T.ps G []).2, (Ty.gaddL T.ps G []).2⟩]) ((Ty.gaddL T.ps G []).1.V)), ⟨rfl, rfl⟩, .v _ _, gUnd (by omega) _ _, ?_, ?_, by omega⟩
      · refine Le.of_eq ?_
        rfl
      · first | (refine ⟨3, ?_, rfl⟩; first | rfl | (simp only [gObs, enumO, List.drop_succ_cons, List.drop_zero, List.map_append, List.map_cons, List.map_nil, List.length_append, List.length_cons, List.length_nil, GNode.cells, List.take_length, Nat.reduceAdd, Nat.zero_add]; done))
end Go.Proofs.Ytohdoloalolpfaa
