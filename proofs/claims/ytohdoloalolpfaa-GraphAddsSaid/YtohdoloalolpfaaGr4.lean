import Derived.Test.YtohdoloalolpfaaGr3
namespace Go.Proofs.Ytohdoloalolpfaa
open Go Go.RowKit
set_option maxRecDepth 100000
set_option maxHeartbeats 1000000
set_option linter.unusedSimpArgs false
set_option linter.unusedVariables false
attribute [local irreducible] aops dRun
/-- a graph's objects, and those of the closure that reads types of it -/
def rObs (N : List GNode) (V : List (Int × Int)) : List Ob := [.cells 91 [.osl 1 4 (N.map GNode.cells), .map 2], .tok 87 4 N.length, .map (V.map vC), .cells 25 [.ptr 0 0], .cells 82 [.clo 53 [.ptr 3 0, .ptr 4 0]]]
def rObsAt (i j k a b : Nat) (N : List GNode) (V : List (Int × Int)) : List Ob := [.cells 91 [.osl j 4 (N.map GNode.cells), .map k], .tok 87 4 N.length, .map (V.map vC), .cells 25 [.ptr i 0], .cells 82 [.clo 53 [.ptr a 0, .ptr b 0]]]
def RCalls (f : Nat) (args : List AV) (N : List GNode) (V : List (Int × Int)) (R : AV) : Prop :=
  ACalls Try.prog f args (enumO 0 (rObs N V)) 5 fun r os n => (r = R ∧ os = enumO 0 (rObs N V)) ∧ n = 5
theorem rUnd {n : Nat} (h : 5 ≤ n) (N : List GNode) (V : List (Int × Int)) : UndOs n (enumO 0 (rObs N V)) :=
  ⟨by omega, ⟨.oslG (by omega), .map (by omega), trivial⟩, by omega, trivial, by omega, fun p hp => .data (vC_data V p hp), by omega, ⟨.ptr (by omega), trivial⟩, by omega, ⟨.clo ⟨.ptr (by omega), .ptr (by omega), trivial⟩, trivial⟩, trivial⟩
theorem RCalls.at {f : Nat} {args args' : List AV} {N : List GNode} {V : List (Int × Int)} {R : AV} (h : RCalls f args N V R) (hR : Data R) {i j k a b : Nat} {os' : Os} {nx' : Nat} (hargs : RenL (renOf [i, j, k, a, b] nx') args args')
    (hi : getO os' i = some (.cells 91 [.osl j 4 (N.map GNode.cells), .map k])) (hj : getO os' j = some (.tok 87 4 N.length)) (hk : getO os' k = some (.map (V.map vC)))
    (ha : getO os' a = some (.cells 25 [.ptr i 0])) (hb : getO os' b = some (.cells 82 [.clo 53 [.ptr a 0, .ptr b 0]]))
    (hnd : [i, j, k, a, b].Nodup) (hlt : ∀ x ∈ [i, j, k, a, b], x < nx') {Q' : AV → Os → Nat → Prop}
    (hq : Q' R (putsO os' ([i, j, k, a, b].zip (rObsAt i j k a b N V))) nx') : ACalls Try.prog f args' os' nx' Q' := by
  have ren : RenOs (renOf [i, j, k, a, b] nx') 0 (rObs N V) (rObsAt i j k a b N V) :=
    ⟨.cells ⟨.osl rfl (GNode.dataRows N), .map rfl, trivial⟩, .tok, .map (vC_data V), .cells ⟨.ptr rfl, trivial⟩, .cells ⟨.clo ⟨.ptr rfl, .ptr rfl, trivial⟩, trivial⟩, trivial⟩
  exact ACalls.at (args := args) (obs := rObs N V) (obs1 := rObs N V) (obs' := rObsAt i j k a b N V) (obs1' := rObsAt i j k a b N V) [i, j, k, a, b] (h.mono fun r os n ⟨⟨h1, h2⟩, h3⟩ => ⟨h1, h2, h3⟩) rfl rfl hnd hlt hargs (.data hR) ren ⟨hi, hj, hk, ha, hb, trivial⟩ ren hq
/-- the type of a node -/
def gty (N : List GNode) : Nat → Int → Ty
  | 0, _ => .mk 0 0 []
  | f + 1, i => match N[i.toNat]? with | none => .mk 0 0 [] | some x => .mk x.k x.n (x.parts.map (gty N f))
def tyAt (N : List GNode) (i : Int) : Ty := gty N (i.toNat + 1) i
/-- parts have lesser numbers -/
def GWf (N : List GNode) : Prop := ∀ (j : Nat) (x : GNode), N[j]? = some x → (∀ p ∈ x.parts, 0 ≤ p ∧ p < (j : Int)) ∧ x.parts.length ≤ 1099511627776
theorem gty_fuel {N : List GNode} (h : GWf N) : ∀ (n : Nat) (f : Nat) (i : Int), 0 ≤ i → i.toNat ≤ n → i.toNat < f → gty N f i = tyAt N i := by
  intro n
  induction n with
  | zero =>
    intro f i h0 h1 h2
    obtain ⟨f, rfl⟩ : ∃ g, f = g + 1 := ⟨f - 1, by omega⟩
    simp only [tyAt, gty]
    cases hx : N[i.toNat]? with
    | none => rfl
    | some x =>
      have he : x.parts = [] := by
        cases hp : x.parts with
        | nil => rfl
        | cons p ps => have := (h _ x hx).1 p (by rw [hp]; simp); omega
      simp [he]
  | succ n ih =>
    intro f i h0 h1 h2
    obtain ⟨f, rfl⟩ : ∃ g, f = g + 1 := ⟨f - 1, by omega⟩
    simp only [tyAt, gty]
    cases hx : N[i.toNat]? with
    | none => rfl
    | some x =>
      have : x.parts.map (gty N f) = x.parts.map (gty N i.toNat) := List.map_congr_left fun p hp => by
        have := (h _ x hx).1 p hp
        rw [ih f p this.1 (by omega) (by omega), ih i.toNat p this.1 (by omega) (by omega)]
      simp [this]
theorem tyAt_eq {N : List GNode} (h : GWf N) {i : Int} {x : GNode} (hx : N[i.toNat]? = some x) : tyAt N i = .mk x.k x.n (x.parts.map (tyAt N)) := by
  simp only [tyAt, gty, hx]
  congr 1
  refine List.map_congr_left fun p hp => ?_
  have := (h _ x hx).1 p hp
  exact gty_fuel h i.toNat _ p this.1 (by omega) (by omega)
theorem T1_calls {N : List GNode} {V : List (Int × Int)} {i : Int} {R : Ty} (h : RCalls 54 [.ptr 0 0, .v (.int .i64 i), .clo 53 [.ptr 3 0, .ptr 4 0]] N V (.agg R.cells)) : RCalls 53 [.v (.int .i64 i), .ptr 3 0, .ptr 4 0] N V (.agg R.cells) := by
  refine ACalls.clean (C := fun r os => r = _ ∧ os = _) ?_
  refine ACalls_intro Try.func53 (by kernel_rfl) rfl (by rw [Try.ntmps53]; simp) (fun hm => ?_)
  simp only [Try.ntmps53, Try.results53, List.length_cons, List.length_nil, Nat.reduceAdd, Nat.reduceSub, List.replicate_succ, List.replicate_zero, List.cons_append, List.nil_append]
  simp only [rObs, enumO, Nat.reduceAdd]
  refine AWp_seqK fun K1 hK1 => ?_
  refine AWp_region ?_
  simp only [↓aops, ↓aop, ↓aWant, ↓aVal, bS, bA, AV.flat, AV.cl, AV.one, Value.oneCell', thenQ, blockQ, noGotoQ, ↓reduceIte, Nat.reduceEqDiff, reduceCtorEq, zc32, bL, tyX]
  refine hK1 _ ?_
  try clear hK1 K1
  refine AWp_seqK fun K2 hK2 => ?_
  refine AWp_region ?_
  refine aops_chunk 3 fun C3 hC3 => ?_
  simp only [bL, ↓aops, ↓aop, ↓aWant, ↓aVal, bS, bA, AV.flat, AV.cl, AV.one, Value.oneCell', thenQ, blockQ, noGotoQ, ↓reduceIte, Nat.reduceEqDiff, reduceCtorEq, aLoad, ti25, getO, pack, Nat.reduceAdd, Nat.reduceLeDiff, ti82, tyX]
  refine hC3 _ ?_
  try clear hC3 C3
  simp only [bL]
  refine aops_chunk 1 fun C4 hC4 => ?_
  simp only [bL, ↓aops, ↓aop, ↓aWant, ↓aVal, bS, bA, AV.flat, AV.cl, AV.one, Value.oneCell', thenQ, blockQ, noGotoQ, ↓reduceIte, Nat.reduceEqDiff, reduceCtorEq, aCallV, tyX]
  refine RCalls.at (args' := [.ptr 0 0, .v (.int .i64 i), .clo 53 [.ptr 3 0, .ptr 4 0]]) (i := 0) (j := 1) (k := 2) (a := 3) (b := 4) (h) (Ty.dataAgg _) ⟨.ptr rfl, .v _, .clo ⟨.ptr rfl, .ptr rfl, trivial⟩, trivial⟩ rfl rfl rfl rfl rfl (by decide) (by simp) ?_
  simp only [putsO, rObsAt, List.zip_cons_cons, List.zip_nil_right, putO, Nat.reduceEqDiff, ↓reduceIte]
  try simp only [bS, bA, thenQ, blockQ, noGotoQ]
  refine hC4 _ ?_
  try clear hC4 C4
  simp only [bL]
  simp only [↓aops, ↓aop, ↓aWant, ↓aVal, bS, bA, AV.flat, AV.cl, AV.one, Value.oneCell', thenQ, blockQ, noGotoQ, ↓reduceIte, Nat.reduceEqDiff, reduceCtorEq, aStore, ti32, getO, putO, splice, bL, Nat.reduceAdd, Nat.reduceLeDiff, tyX]
  refine hK2 _ ?_
  try clear hK2 K2
  refine AWp_ret ?_
  try simp only [thenQ, blockQ, noGotoQ, retQ, aRes, tupOf, bS, bA, aLoad, getO, pack, bL, Nat.reduceAdd, Nat.reduceLeDiff, Nat.reduceEqDiff, ↓reduceIte, ti32, tyX]
  refine ⟨_, enumO 0 (rObs N V), ⟨rfl, rfl⟩, .data (Ty.dataAgg _), rUnd (by omega) _ _, ?_, ?_, by omega⟩
  · exact Le.refl _
  · first | (refine ⟨1, ?_, rfl⟩; first | rfl | (simp only [rObs, enumO, List.drop_succ_cons, List.drop_zero, Nat.reduceAdd, Nat.zero_add]; done))
theorem read_calls {N : List GNode} (V : List (Int × Int)) (hN : GWf N) : ∀ (n : Nat) (i : Int), i.toNat = n → 0 ≤ i → i < (N.length : Int) → RCalls 54 [.ptr 0 0, .v (.int .i64 i), .clo 53 [.ptr 3 0, .ptr 4 0]] N V (.agg (tyAt N i).cells) := by
  intro n
  induction n using Nat.strongRecOn with
  | _ n ih =>
  intro i hin hi0 hi1
  obtain ⟨x, hx⟩ := lookup_at N i ⟨hi0, hi1⟩
  obtain ⟨hwf, hxl⟩ := hN _ x hx
  refine ACalls.clean (C := fun r os => r = _ ∧ os = _) ?_
  refine ACalls_intro Try.func54 (by kernel_rfl) rfl (by rw [Try.ntmps54]; simp) (fun hm => ?_)
  simp only [Try.ntmps54, Try.results54, List.length_cons, List.length_nil, Nat.reduceAdd, Nat.reduceSub, List.replicate_succ, List.replicate_zero, List.cons_append, List.nil_append]
  simp only [rObs, enumO, Nat.reduceAdd]
  refine AWp_seqK fun K1 hK1 => ?_
  refine AWp_region ?_
  simp only [↓aops, ↓aop, ↓aWant, ↓aVal, bS, bA, AV.flat, AV.cl, AV.one, Value.oneCell', thenQ, blockQ, noGotoQ, ↓reduceIte, Nat.reduceEqDiff, reduceCtorEq, zc32, bL, tyX, hi0, hi1, getD_map_cells hx, GNode.cells, List.length_map]
  refine hK1 _ ?_
  try clear hK1 K1
  refine AWp_seqK fun K2 hK2 => ?_
  refine AWp_region ?_
  refine aops_chunk 4 fun C3 hC3 => ?_
  simp only [bL, ↓aops, ↓aop, ↓aWant, ↓aVal, bS, bA, AV.flat, AV.cl, AV.one, Value.oneCell', thenQ, blockQ, noGotoQ, ↓reduceIte, Nat.reduceEqDiff, reduceCtorEq, aField, fo91_0, Nat.reduceAdd, aLoad, ti88, getO, pack, Nat.reduceLeDiff, tyX, hi0, hi1, getD_map_cells hx, GNode.cells, List.length_map]
  refine hC3 _ ?_
  try clear hC3 C3
  simp only [bL]
  refine aops_chunk 4 fun C4 hC4 => ?_
  simp only [bL, ↓aops, ↓aop, ↓aWant, ↓aVal, bS, bA, AV.flat, AV.cl, AV.one, Value.oneCell', thenQ, blockQ, noGotoQ, ↓reduceIte, Nat.reduceEqDiff, reduceCtorEq, getO, aIndexA, es88, Int.natCast_nonneg, Int.ofNat_lt, Int.toNat_natCast, List.length_map, Int.le_refl, Int.toNat_zero, Int.toNat_one, Int.reduceLE, aLoad, ti87, pack, Nat.reduceAdd, Nat.reduceLeDiff, zc87, tyX, hi0, hi1, getD_map_cells hx, GNode.cells]
  refine hC4 _ ?_
  try clear hC4 C4
  simp only [bL]
  simp only [↓aops, ↓aop, ↓aWant, ↓aVal, bS, bA, AV.flat, AV.cl, AV.one, Value.oneCell', thenQ, blockQ, noGotoQ, ↓reduceIte, Nat.reduceEqDiff, reduceCtorEq, aStore, ti87, getO, putO, splice, bL, Nat.reduceAdd, Nat.reduceLeDiff, tyX, hi0, hi1, getD_map_cells hx, GNode.cells, List.length_map]
  refine hK2 _ ?_
  try clear hK2 K2
  refine AWp_seqK fun K5 hK5 => ?_
  refine AWp_region ?_
  refine aops_chunk 4 fun C6 hC6 => ?_
  simp only [bL, ↓aops, ↓aop, ↓aWant, ↓aVal, bS, bA, AV.flat, AV.cl, AV.one, Value.oneCell', thenQ, blockQ, noGotoQ, ↓reduceIte, Nat.reduceEqDiff, reduceCtorEq, aField, fo87_0, Nat.reduceAdd, aLoad, ti3, getO, pack, Nat.reduceLeDiff, fo87_1, tyX, hi0, hi1, getD_map_cells hx, GNode.cells, List.length_map]
  refine hC6 _ ?_
  try clear hC6 C6
  simp only [bL]
  simp only [↓aops, ↓aop, ↓aWant, ↓aVal, bS, bA, AV.flat, AV.cl, AV.one, Value.oneCell', thenQ, blockQ, noGotoQ, ↓reduceIte, Nat.reduceEqDiff, reduceCtorEq, aBuild, zc32, pc32, aFill, splice, bL, Nat.reduceAdd, Nat.reduceLeDiff, aStore, ti32, getO, putO, tyX, hi0, hi1, getD_map_cells hx, GNode.cells, List.length_map]
  refine hK5 _ ?_
  try clear hK5 K5
  refine AWp_seqK fun K7 hK7 => ?_
  refine AWp_seqK fun K8 hK8 => ?_
  refine AWp_region ?_
  simp only [↓aops, ↓aop, ↓aWant, ↓aVal, bS, bA, AV.flat, AV.cl, AV.one, Value.oneCell', thenQ, blockQ, noGotoQ, ↓reduceIte, Nat.reduceEqDiff, reduceCtorEq, aField, fo87_3, bL, Nat.reduceAdd, aLoad, ti28, getO, pack, Nat.reduceLeDiff, aLenX, aLen, ln28, List.length_map, tyX, hi0, hi1, getD_map_cells hx, GNode.cells]
  refine hK8 _ ?_
  try clear hK8 K8
  refine AWp_block ?_
  refine AWp_weak (Weak.tokCell 32 3 (id := 7) (t := 32) [.v (.int .i64 x.k), .v (.int .i64 x.n), .osl 8 3 []] rfl ⟨.inl (.refl _), .inl (.refl _), .inr ⟨rfl, rfl⟩, trivial⟩) ?_
  simp only [putO, Nat.reduceEqDiff, ↓reduceIte]
  refine AWp_loopM (σ := Nat) [false, false, true, false, false, false, true, false, true, false, false, false, false, false, false, false, false, false, false, false, false, false, false, false, true, true, true, false, false, false, false, false, false, false, false, false, false, false, false, false] (fun s => s ≤ x.parts.length) (fun s => [(26, .v (.int .i64 (s : Int)))]) (fun s => [(7, .cells 32 [.v (.int .i64 x.k), .v (.int .i64 x.n), .osl 8 3 (((x.parts.take s).map (tyAt N)).map Ty.cells)]), (8, .tok 32 3 s)]) (fun s => x.parts.length - s) 0 (by omega) ?_ (fun s hs => ?_)
  · skip
    simp only [maskL, setsL, putsO, putO, bA, Nat.reduceEqDiff, ↓reduceIte, bL]
    exact Weak.mk (by simp only [LeL, Le.refl, Le.any, Le.slNil, and_self, Int.natCast_add, Int.cast_ofNat_Int, Int.natCast_one]) (fun _ _ h => h) rfl rfl
  simp only [maskL, setsL, putsO, putO, bA, Nat.reduceEqDiff, ↓reduceIte]
  refine AWp_seqK fun K9 hK9 => ?_
  refine AWp_region ?_
  simp only [↓aops, ↓aop, ↓aWant, ↓aVal, bS, bA, AV.flat, AV.cl, AV.one, Value.oneCell', thenQ, blockQ, noGotoQ, ↓reduceIte, Nat.reduceEqDiff, reduceCtorEq, aBin, tyX, hi0, hi1, getD_map_cells hx, GNode.cells, List.length_map]
  refine hK9 _ ?_
  try clear hK9 K9
  refine AWp_seqK fun K10 hK10 => ?_
  refine AWp_cond rfl (fun hb27 => ?_) (fun hb27 => ?_)
  · skip
    have hk : s < x.parts.length := by simpa using hb27
    obtain ⟨p, hp⟩ : ∃ p, x.parts[s]? = some p := ⟨_, List.getElem?_eq_getElem hk⟩
    obtain ⟨hp0, hp1⟩ := hwf p (List.mem_of_getElem? hp)
    have hln : (((x.parts.take s).map (tyAt N)).map Ty.cells).length = s := by simp; omega
    have hw : IntKind.i64.wrap ((s : Int) + 1) = (s : Int) + 1 := wrap_in (by omega) (by omega)
    have hb1 : (s + 1) * 40 ≤ 140737488355328 := by omega
    have hb2 : s + 1 ≤ maxLen := by simp only [maxLen]; omega
    refine AWp_skip ?_
    try simp only [thenQ, blockQ, noGotoQ]
    refine hK10 _ ?_
    try clear hK10 K10
    refine AWp_seqK fun K11 hK11 => ?_
    refine AWp_block ?_
    refine AWp_seqK fun K12 hK12 => ?_
    refine AWp_region ?_
    simp only [↓aops, ↓aop, ↓aWant, ↓aVal, bS, bA, AV.flat, AV.cl, AV.one, Value.oneCell', thenQ, blockQ, noGotoQ, ↓reduceIte, Nat.reduceEqDiff, reduceCtorEq, getO, aIndexA, es28, Int.natCast_nonneg, Int.ofNat_lt, Int.toNat_natCast, List.length_map, Int.le_refl, Int.toNat_zero, Int.toNat_one, Int.reduceLE, aLoad, ti3, pack, bL, Nat.reduceAdd, Nat.reduceLeDiff, tyX, hi0, hi1, getD_map_cells hx, GNode.cells, hk, getD_map_cells hp, Int.natCast_add, Int.natCast_one, hw, hln, hb1, hb2, List.map_append, take_map_step (tyAt N) hp]
    refine hK12 _ ?_
    try clear hK12 K12
    refine AAny_start [] 9 rfl mixed (trivial) rfl ?_
    dsimp only
    refine AAny_takeK 0 rfl (by kernel_rfl) (by kernel_rfl) (by kernel_rfl) (fun _ _ h => h) fun K13 hK13 => ?_
    simp only [aQuiet, aHeldLoad, CurL, CurOk, ↓aops, ↓aop, ↓aWant, ↓aVal, bS, bA, AV.flat, AV.cl, AV.one, Value.oneCell', thenQ, blockQ, noGotoQ, ↓reduceIte, Nat.reduceEqDiff, reduceCtorEq, aField, fo32_2, bL, Nat.reduceAdd, tyX, hi0, hi1, getD_map_cells hx, GNode.cells, List.length_map, hk, getD_map_cells hp, Int.natCast_add, Int.natCast_one, hw, hln, hb1, hb2, List.map_append, take_map_step (tyAt N) hp]
    refine hK13 _ ?_
    try clear hK13 K13
    refine AAny_takeK 2 rfl (by kernel_rfl) (by kernel_rfl) (by kernel_rfl) (fun _ _ h => h) fun K14 hK14 => ?_
    simp only [aQuiet, aHeldLoad, CurL, CurOk, ↓aops, ↓aop, ↓aWant, ↓aVal, bS, bA, AV.flat, AV.cl, AV.one, Value.oneCell', thenQ, blockQ, noGotoQ, ↓reduceIte, Nat.reduceEqDiff, reduceCtorEq, tyX, hi0, hi1, getD_map_cells hx, GNode.cells, List.length_map, hk, getD_map_cells hp, Int.natCast_add, Int.natCast_one, hw, hln, hb1, hb2, List.map_append, bL, take_map_step (tyAt N) hp]
    refine hK14 _ ?_
    try clear hK14 K14
    refine AAny_takeK 3 rfl (by kernel_rfl) (by kernel_rfl) (by kernel_rfl) (fun _ _ h => h) fun K15 hK15 => ?_
    simp only [aQuiet, aHeldLoad, CurL, CurOk, ↓aops, ↓aop, ↓aWant, ↓aVal, bS, bA, AV.flat, AV.cl, AV.one, Value.oneCell', thenQ, blockQ, noGotoQ, ↓reduceIte, Nat.reduceEqDiff, reduceCtorEq, tyX, hi0, hi1, getD_map_cells hx, GNode.cells, List.length_map, hk, getD_map_cells hp, Int.natCast_add, Int.natCast_one, hw, hln, hb1, hb2, List.map_append, bL, take_map_step (tyAt N) hp]
    refine hK15 _ ?_
    try clear hK15 K15
    refine AAny_all2 (i := 1) (j := 4) (by kernel_rfl) ?_ ?_
    · skip
      refine aAt_op rfl rfl fun K16 hK16 => ?_
      simp only [↓aops, ↓aop, ↓aWant, ↓aVal, bS, bA, AV.flat, AV.cl, AV.one, Value.oneCell', thenQ, blockQ, noGotoQ, ↓reduceIte, Nat.reduceEqDiff, reduceCtorEq, aLoad, ti22, getO, pack, bL, Nat.reduceAdd, Nat.reduceLeDiff, tyX, hi0, hi1, getD_map_cells hx, GNode.cells, List.length_map, hk, getD_map_cells hp, Int.natCast_add, Int.natCast_one, hw, hln, hb1, hb2, List.map_append, take_map_step (tyAt N) hp]
      refine hK16 _ ⟨trivial, ?_⟩
      try clear hK16 K16
      refine AAny_all1 (i := 4) (by kernel_rfl) ?_
      · skip
        refine aAt_op rfl rfl fun K17 hK17 => ?_
        simp only [↓aops, ↓aop, ↓aWant, ↓aVal, bS, bA, AV.flat, AV.cl, AV.one, Value.oneCell', thenQ, blockQ, noGotoQ, ↓reduceIte, Nat.reduceEqDiff, reduceCtorEq, aCallV, bL, tyX, hi0, hi1, getD_map_cells hx, GNode.cells, List.length_map, hk, getD_map_cells hp, Int.natCast_add, Int.natCast_one, hw, hln, hb1, hb2, List.map_append, take_map_step (tyAt N) hp]
        refine RCalls.at (args' := [.v (.int .i64 p), .ptr 3 0, .ptr 4 0]) (i := 0) (j := 1) (k := 2) (a := 3) (b := 4) (T1_calls (ih p.toNat (by omega) p rfl hp0 (by omega))) (Ty.dataAgg _) ⟨.v _, .ptr rfl, .ptr rfl, trivial⟩ rfl rfl rfl rfl rfl (by decide) (by simp) ?_
        simp only [putsO, rObsAt, List.zip_cons_cons, List.zip_nil_right, putO, Nat.reduceEqDiff, ↓reduceIte]
        try simp only [bS, bA]
        refine hK17 _ ⟨trivial, ?_⟩
        try clear hK17 K17
        refine AAny_all1 (i := 5) (by kernel_rfl) ?_
        · skip
          refine aAt_op rfl rfl fun K18 hK18 => ?_
          simp only [↓aops, ↓aop, ↓aWant, ↓aVal, bS, bA, AV.flat, AV.cl, AV.one, Value.oneCell', thenQ, blockQ, noGotoQ, ↓reduceIte, Nat.reduceEqDiff, reduceCtorEq, ↓bs1_1, ↓bs1_2, ↓bs1_3, ↓bs1_4, ↓bs1_5, ↓bs1_6, ↓bs1_7, ↓bs1_8, ↓bs1_9, ↓bs1_10, ↓bs1_11, ↓bs1_12, aBuildSl, ei22, ia32, bL, List.range_succ, List.range_zero, List.forall_mem_cons, List.not_mem_nil, false_imp_iff, implies_true, Nat.reduceAdd, Nat.reduceLeDiff, forall_eq, List.mem_singleton, tyX, hi0, hi1, getD_map_cells hx, GNode.cells, List.length_map, hk, getD_map_cells hp, Int.natCast_add, Int.natCast_one, hw, hln, hb1, hb2, List.map_append, take_map_step (tyAt N) hp]
          refine hK18 _ ⟨trivial, ?_⟩
          try clear hK18 K18
          refine AAny_all1 (i := 6) (by kernel_rfl) ?_
          · skip
            refine aAt_op rfl rfl fun K19 hK19 => ?_
            simp only [↓aops, ↓aop, ↓aWant, ↓aVal, bS, bA, AV.flat, AV.cl, AV.one, Value.oneCell', thenQ, blockQ, noGotoQ, ↓reduceIte, Nat.reduceEqDiff, reduceCtorEq, aAppend, ei22, slIn, slAt, slOf, List.length_map, getO, putO, bL, Nat.reduceAdd, tyX, hi0, hi1, getD_map_cells hx, GNode.cells, hk, getD_map_cells hp, Int.natCast_add, Int.natCast_one, hw, hln, hb1, hb2, List.map_append, take_map_step (tyAt N) hp]
            refine hK19 _ ⟨trivial, ?_⟩
            try clear hK19 K19
            refine AAny_takeK 7 rfl (by kernel_rfl) (by kernel_rfl) (by kernel_rfl) (fun _ _ h => h) fun K20 hK20 => ?_
            simp only [aQuiet, aHeldLoad, CurL, CurOk, ↓aops, ↓aop, ↓aWant, ↓aVal, bS, bA, AV.flat, AV.cl, AV.one, Value.oneCell', thenQ, blockQ, noGotoQ, ↓reduceIte, Nat.reduceEqDiff, reduceCtorEq, aField, fo32_2, bL, Nat.reduceAdd, tyX, hi0, hi1, getD_map_cells hx, GNode.cells, List.length_map, hk, getD_map_cells hp, Int.natCast_add, Int.natCast_one, hw, hln, hb1, hb2, List.map_append, take_map_step (tyAt N) hp]
            refine hK20 _ ?_
            try clear hK20 K20
            refine AAny_all1 (i := 8) (by kernel_rfl) ?_
            · skip
              refine aAt_op rfl rfl fun K21 hK21 => ?_
              simp only [↓aops, ↓aop, ↓aWant, ↓aVal, bS, bA, AV.flat, AV.cl, AV.one, Value.oneCell', thenQ, blockQ, noGotoQ, ↓reduceIte, Nat.reduceEqDiff, reduceCtorEq, aStore, ti22, getO, putO, splice, bL, Nat.reduceAdd, Nat.reduceLeDiff, tyX, hi0, hi1, getD_map_cells hx, GNode.cells, List.length_map, hk, getD_map_cells hp, Int.natCast_add, Int.natCast_one, hw, hln, hb1, hb2, List.map_append, take_map_step (tyAt N) hp]
              refine hK21 _ ⟨trivial, ?_⟩
              try clear hK21 K21
              refine AAny_done (by kernel_rfl) ?_
              simp only [thenQ, blockQ, noGotoQ]
              refine hK11 _ ?_
              try clear hK11 K11
              refine AWp_region ?_
              simp only [↓aops, ↓aop, ↓aWant, ↓aVal, bS, bA, AV.flat, AV.cl, AV.one, Value.oneCell', thenQ, blockQ, noGotoQ, ↓reduceIte, Nat.reduceEqDiff, reduceCtorEq, aBin, tyX, hi0, hi1, getD_map_cells hx, GNode.cells, List.length_map, hk, getD_map_cells hp, Int.natCast_add, Int.natCast_one, hw, hln, hb1, hb2, List.map_append, bL, take_map_step (tyAt N) hp]
              refine ⟨(s + 1), (by omega), by omega, ?_⟩
              simp only [maskL, setsL, putsO, putO, bA, Nat.reduceEqDiff, ↓reduceIte, hk, getD_map_cells hp, Int.natCast_add, Int.natCast_one, hw, hln, hb1, hb2, List.map_append, bL, take_map_step (tyAt N) hp]
              exact Weak.mk (by simp only [LeL, Le.refl, Le.any, Le.slNil, and_self, Int.natCast_add, Int.cast_ofNat_Int, Int.natCast_one]) (fun _ _ h => h) rfl rfl
    · skip
      refine aAt_op rfl rfl fun K22 hK22 => ?_
      simp only [↓aops, ↓aop, ↓aWant, ↓aVal, bS, bA, AV.flat, AV.cl, AV.one, Value.oneCell', thenQ, blockQ, noGotoQ, ↓reduceIte, Nat.reduceEqDiff, reduceCtorEq, aCallV, bL, tyX, hi0, hi1, getD_map_cells hx, GNode.cells, List.length_map, hk, getD_map_cells hp, Int.natCast_add, Int.natCast_one, hw, hln, hb1, hb2, List.map_append, take_map_step (tyAt N) hp]
      refine RCalls.at (args' := [.v (.int .i64 p), .ptr 3 0, .ptr 4 0]) (i := 0) (j := 1) (k := 2) (a := 3) (b := 4) (T1_calls (ih p.toNat (by omega) p rfl hp0 (by omega))) (Ty.dataAgg _) ⟨.v _, .ptr rfl, .ptr rfl, trivial⟩ rfl rfl rfl rfl rfl (by decide) (by simp) ?_
      simp only [putsO, rObsAt, List.zip_cons_cons, List.zip_nil_right, putO, Nat.reduceEqDiff, ↓reduceIte]
      try simp only [bS, bA]
      refine hK22 _ ⟨trivial, ?_⟩
      try clear hK22 K22
      refine AAny_all2 (i := 1) (j := 5) (by kernel_rfl) ?_ ?_
      · skip
        refine aAt_op rfl rfl fun K23 hK23 => ?_
        simp only [↓aops, ↓aop, ↓aWant, ↓aVal, bS, bA, AV.flat, AV.cl, AV.one, Value.oneCell', thenQ, blockQ, noGotoQ, ↓reduceIte, Nat.reduceEqDiff, reduceCtorEq, aLoad, ti22, getO, pack, bL, Nat.reduceAdd, Nat.reduceLeDiff, tyX, hi0, hi1, getD_map_cells hx, GNode.cells, List.length_map, hk, getD_map_cells hp, Int.natCast_add, Int.natCast_one, hw, hln, hb1, hb2, List.map_append, take_map_step (tyAt N) hp]
        refine hK23 _ ⟨trivial, ?_⟩
        try clear hK23 K23
        refine AAny_all1 (i := 5) (by kernel_rfl) ?_
        · skip
          refine aAt_op rfl rfl fun K24 hK24 => ?_
          simp only [↓aops, ↓aop, ↓aWant, ↓aVal, bS, bA, AV.flat, AV.cl, AV.one, Value.oneCell', thenQ, blockQ, noGotoQ, ↓reduceIte, Nat.reduceEqDiff, reduceCtorEq, ↓bs1_1, ↓bs1_2, ↓bs1_3, ↓bs1_4, ↓bs1_5, ↓bs1_6, ↓bs1_7, ↓bs1_8, ↓bs1_9, ↓bs1_10, ↓bs1_11, ↓bs1_12, aBuildSl, ei22, ia32, bL, List.range_succ, List.range_zero, List.forall_mem_cons, List.not_mem_nil, false_imp_iff, implies_true, Nat.reduceAdd, Nat.reduceLeDiff, forall_eq, List.mem_singleton, tyX, hi0, hi1, getD_map_cells hx, GNode.cells, List.length_map, hk, getD_map_cells hp, Int.natCast_add, Int.natCast_one, hw, hln, hb1, hb2, List.map_append, take_map_step (tyAt N) hp]
          refine hK24 _ ⟨trivial, ?_⟩
          try clear hK24 K24
          refine AAny_all1 (i := 6) (by kernel_rfl) ?_
          · skip
            refine aAt_op rfl rfl fun K25 hK25 => ?_
            simp only [↓aops, ↓aop, ↓aWant, ↓aVal, bS, bA, AV.flat, AV.cl, AV.one, Value.oneCell', thenQ, blockQ, noGotoQ, ↓reduceIte, Nat.reduceEqDiff, reduceCtorEq, aAppend, ei22, slIn, slAt, slOf, List.length_map, getO, putO, bL, Nat.reduceAdd, tyX, hi0, hi1, getD_map_cells hx, GNode.cells, hk, getD_map_cells hp, Int.natCast_add, Int.natCast_one, hw, hln, hb1, hb2, List.map_append, take_map_step (tyAt N) hp]
            refine hK25 _ ⟨trivial, ?_⟩
            try clear hK25 K25
            refine AAny_takeK 7 rfl (by kernel_rfl) (by kernel_rfl) (by kernel_rfl) (fun _ _ h => h) fun K26 hK26 => ?_
            simp only [aQuiet, aHeldLoad, CurL, CurOk, ↓aops, ↓aop, ↓aWant, ↓aVal, bS, bA, AV.flat, AV.cl, AV.one, Value.oneCell', thenQ, blockQ, noGotoQ, ↓reduceIte, Nat.reduceEqDiff, reduceCtorEq, aField, fo32_2, bL, Nat.reduceAdd, tyX, hi0, hi1, getD_map_cells hx, GNode.cells, List.length_map, hk, getD_map_cells hp, Int.natCast_add, Int.natCast_one, hw, hln, hb1, hb2, List.map_append, take_map_step (tyAt N) hp]
            refine hK26 _ ?_
            try clear hK26 K26
            refine AAny_all1 (i := 8) (by kernel_rfl) ?_
            · skip
              refine aAt_op rfl rfl fun K27 hK27 => ?_
              simp only [↓aops, ↓aop, ↓aWant, ↓aVal, bS, bA, AV.flat, AV.cl, AV.one, Value.oneCell', thenQ, blockQ, noGotoQ, ↓reduceIte, Nat.reduceEqDiff, reduceCtorEq, aStore, ti22, getO, putO, splice, bL, Nat.reduceAdd, Nat.reduceLeDiff, tyX, hi0, hi1, getD_map_cells hx, GNode.cells, List.length_map, hk, getD_map_cells hp, Int.natCast_add, Int.natCast_one, hw, hln, hb1, hb2, List.map_append, take_map_step (tyAt N) hp]
              refine hK27 _ ⟨trivial, ?_⟩
              try clear hK27 K27
              refine AAny_done (by kernel_rfl) ?_
              simp only [thenQ, blockQ, noGotoQ]
              refine hK11 _ ?_
              try clear hK11 K11
              refine AWp_region ?_
              simp only [↓aops, ↓aop, ↓aWant, ↓aVal, bS, bA, AV.flat, AV.cl, AV.one, Value.oneCell', thenQ, blockQ, noGotoQ, ↓reduceIte, Nat.reduceEqDiff, reduceCtorEq, aBin, tyX, hi0, hi1, getD_map_cells hx, GNode.cells, List.length_map, hk, getD_map_cells hp, Int.natCast_add, Int.natCast_one, hw, hln, hb1, hb2, List.map_append, bL, take_map_step (tyAt N) hp]
              refine ⟨(s + 1), (by omega), by omega, ?_⟩
              simp only [maskL, setsL, putsO, putO, bA, Nat.reduceEqDiff, ↓reduceIte, hk, getD_map_cells hp, Int.natCast_add, Int.natCast_one, hw, hln, hb1, hb2, List.map_append, bL, take_map_step (tyAt N) hp]
              exact Weak.mk (by simp only [LeL, Le.refl, Le.any, Le.slNil, and_self, Int.natCast_add, Int.cast_ofNat_Int, Int.natCast_one]) (fun _ _ h => h) rfl rfl
      · skip
        refine aAt_op rfl rfl fun K28 hK28 => ?_
        simp only [↓aops, ↓aop, ↓aWant, ↓aVal, bS, bA, AV.flat, AV.cl, AV.one, Value.oneCell', thenQ, blockQ, noGotoQ, ↓reduceIte, Nat.reduceEqDiff, reduceCtorEq, ↓bs1_1, ↓bs1_2, ↓bs1_3, ↓bs1_4, ↓bs1_5, ↓bs1_6, ↓bs1_7, ↓bs1_8, ↓bs1_9, ↓bs1_10, ↓bs1_11, ↓bs1_12, aBuildSl, ei22, ia32, bL, List.range_succ, List.range_zero, List.forall_mem_cons, List.not_mem_nil, false_imp_iff, implies_true, Nat.reduceAdd, Nat.reduceLeDiff, forall_eq, List.mem_singleton, tyX, hi0, hi1, getD_map_cells hx, GNode.cells, List.length_map, hk, getD_map_cells hp, Int.natCast_add, Int.natCast_one, hw, hln, hb1, hb2, List.map_append, take_map_step (tyAt N) hp]
        refine hK28 _ ⟨trivial, ?_⟩
        try clear hK28 K28
        refine AAny_all1 (i := 1) (by kernel_rfl) ?_
        · skip
          refine aAt_op rfl rfl fun K29 hK29 => ?_
          simp only [↓aops, ↓aop, ↓aWant, ↓aVal, bS, bA, AV.flat, AV.cl, AV.one, Value.oneCell', thenQ, blockQ, noGotoQ, ↓reduceIte, Nat.reduceEqDiff, reduceCtorEq, aLoad, ti22, getO, pack, bL, Nat.reduceAdd, Nat.reduceLeDiff, tyX, hi0, hi1, getD_map_cells hx, GNode.cells, List.length_map, hk, getD_map_cells hp, Int.natCast_add, Int.natCast_one, hw, hln, hb1, hb2, List.map_append, take_map_step (tyAt N) hp]
          refine hK29 _ ⟨trivial, ?_⟩
          try clear hK29 K29
          refine AAny_all1 (i := 6) (by kernel_rfl) ?_
          · skip
            refine aAt_op rfl rfl fun K30 hK30 => ?_
            simp only [↓aops, ↓aop, ↓aWant, ↓aVal, bS, bA, AV.flat, AV.cl, AV.one, Value.oneCell', thenQ, blockQ, noGotoQ, ↓reduceIte, Nat.reduceEqDiff, reduceCtorEq, aAppend, ei22, slIn, slAt, slOf, List.length_map, getO, putO, bL, Nat.reduceAdd, tyX, hi0, hi1, getD_map_cells hx, GNode.cells, hk, getD_map_cells hp, Int.natCast_add, Int.natCast_one, hw, hln, hb1, hb2, List.map_append, take_map_step (tyAt N) hp]
            refine hK30 _ ⟨trivial, ?_⟩
            try clear hK30 K30
            refine AAny_takeK 7 rfl (by kernel_rfl) (by kernel_rfl) (by kernel_rfl) (fun _ _ h => h) fun K31 hK31 => ?_
            simp only [aQuiet, aHeldLoad, CurL, CurOk, ↓aops, ↓aop, ↓aWant, ↓aVal, bS, bA, AV.flat, AV.cl, AV.one, Value.oneCell', thenQ, blockQ, noGotoQ, ↓reduceIte, Nat.reduceEqDiff, reduceCtorEq, aField, fo32_2, bL, Nat.reduceAdd, tyX, hi0, hi1, getD_map_cells hx, GNode.cells, List.length_map, hk, getD_map_cells hp, Int.natCast_add, Int.natCast_one, hw, hln, hb1, hb2, List.map_append, take_map_step (tyAt N) hp]
            refine hK31 _ ?_
            try clear hK31 K31
            refine AAny_all1 (i := 8) (by kernel_rfl) ?_
            · skip
              refine aAt_op rfl rfl fun K32 hK32 => ?_
              simp only [↓aops, ↓aop, ↓aWant, ↓aVal, bS, bA, AV.flat, AV.cl, AV.one, Value.oneCell', thenQ, blockQ, noGotoQ, ↓reduceIte, Nat.reduceEqDiff, reduceCtorEq, aStore, ti22, getO, putO, splice, bL, Nat.reduceAdd, Nat.reduceLeDiff, tyX, hi0, hi1, getD_map_cells hx, GNode.cells, List.length_map, hk, getD_map_cells hp, Int.natCast_add, Int.natCast_one, hw, hln, hb1, hb2, List.map_append, take_map_step (tyAt N) hp]
              refine hK32 _ ⟨trivial, ?_⟩
              try clear hK32 K32
              refine AAny_done (by kernel_rfl) ?_
              simp only [thenQ, blockQ, noGotoQ]
              refine hK11 _ ?_
              try clear hK11 K11
              refine AWp_region ?_
              simp only [↓aops, ↓aop, ↓aWant, ↓aVal, bS, bA, AV.flat, AV.cl, AV.one, Value.oneCell', thenQ, blockQ, noGotoQ, ↓reduceIte, Nat.reduceEqDiff, reduceCtorEq, aBin, tyX, hi0, hi1, getD_map_cells hx, GNode.cells, List.length_map, hk, getD_map_cells hp, Int.natCast_add, Int.natCast_one, hw, hln, hb1, hb2, List.map_append, bL, take_map_step (tyAt N) hp]
              refine ⟨(s + 1), (by omega), by omega, ?_⟩
              simp only [maskL, setsL, putsO, putO, bA, Nat.reduceEqDiff, ↓reduceIte, hk, getD_map_cells hp, Int.natCast_add, Int.natCast_one, hw, hln, hb1, hb2, List.map_append, bL, take_map_step (tyAt N) hp]
              exact Weak.mk (by simp only [LeL, Le.refl, Le.any, Le.slNil, and_self, Int.natCast_add, Int.cast_ofNat_Int, Int.natCast_one]) (fun _ _ h => h) rfl rfl
  · skip
    have hk : s = x.parts.length := by simp at hb27; omega
    refine AWp_exit ?_
    simp only [thenQ, blockQ, noGotoQ, bA, Nat.reduceEqDiff, ↓reduceIte]
    refine hK7 _ ?_
    try clear hK7 K7
    refine AWp_seqK fun K33 hK33 => ?_
    refine AWp_region ?_
    simp only [↓aops, ↓aop, ↓aWant, ↓aVal, bS, bA, AV.flat, AV.cl, AV.one, Value.oneCell', thenQ, blockQ, noGotoQ, ↓reduceIte, Nat.reduceEqDiff, reduceCtorEq, aLoad, ti32, getO, pack, bL, Nat.reduceAdd, Nat.reduceLeDiff, aStore, putO, splice, tyX, hi0, hi1, getD_map_cells hx, GNode.cells, List.length_map]
    refine hK33 _ ?_
    try clear hK33 K33
    refine AWp_ret ?_
    try simp only [thenQ, blockQ, noGotoQ, retQ, aRes, tupOf, bS, bA, aLoad, getO, pack, bL, Nat.reduceAdd, Nat.reduceLeDiff, Nat.reduceEqDiff, ↓reduceIte, ti32, tyX, hi0, hi1, getD_map_cells hx, GNode.cells, List.length_map]
    rw [tyAt_eq hN hx]
    refine ⟨_, enumO 0 (rObs N V), ⟨rfl, rfl⟩, .data (Ty.dataAgg _), rUnd (by omega) _ _, ?_, ?_, by omega⟩
    · refine Le.agg ?_
      rw [Ty.cells_eq, hk, List.take_length]
      exact ⟨.refl _, .refl _, Le.oslL, trivial⟩
    · first | (refine ⟨4, ?_, rfl⟩; first | rfl | (simp only [rObs, enumO, List.drop_succ_cons, List.drop_zero, Nat.reduceAdd, Nat.zero_add]; done))
def GS.type (G : GS) (i most : Int) : Ty × Int :=
  if G.there i = false then (.mk 0 0 [], 9) else if most < ((G.N[i.toNat]?).map GNode.size).getD 0 then (.mk 0 0 [], 6) else (tyAt G.N i, 0)
theorem GS.type_out {G : GS} {i most : Int} (h : G.there i = false) : G.type i most = (.mk 0 0 [], 9) := by rw [GS.type, if_pos h]
theorem GS.type_in {G : GS} {i most : Int} {x : GNode} (h : G.there i = true) (hx : G.N[i.toNat]? = some x) : G.type i most = if most < x.size then (.mk 0 0 [], 6) else (tyAt G.N i, 0) := by
  rw [GS.type, if_neg (by rw [h]; simp), hx]; rfl
theorem Type_calls (G : GS) (i most : Int) (hN : GWf G.N) : GCalls 14 [.ptr 0 0, .v (.int .i64 i), .v (.int .i64 most)] (G.N) (G.V) (.tup [.agg (G.type i most).1.cells, .v (.int .i64 (G.type i most).2)]) (G.N) (G.V) := by
  refine ACalls.clean (C := fun r os => r = _ ∧ os = _) ?_
  refine ACalls_intro Try.func14 (by kernel_rfl) rfl (by rw [Try.ntmps14]; simp) (fun hm => ?_)
  simp only [Try.ntmps14, Try.results14, List.length_cons, List.length_nil, Nat.reduceAdd, Nat.reduceSub, List.replicate_succ, List.replicate_zero, List.cons_append, List.nil_append]
  simp only [gObs, enumO, Nat.reduceAdd]
  refine AWp_seqK fun K1 hK1 => ?_
  refine AWp_region ?_
  simp only [↓aops, ↓aop, ↓aWant, ↓aVal, bS, bA, AV.flat, AV.cl, AV.one, Value.oneCell', thenQ, blockQ, noGotoQ, ↓reduceIte, Nat.reduceEqDiff, reduceCtorEq, zc32, bL, tyX, GNode.cells, List.length_map]
  refine hK1 _ ?_
  try clear hK1 K1
  refine AWp_seqK fun K2 hK2 => ?_
  refine AWp_block ?_
  refine AWp_seqK fun K3 hK3 => ?_
  refine AWp_region ?_
  simp only [↓aops, ↓aop, ↓aWant, ↓aVal, bS, bA, AV.flat, AV.cl, AV.one, Value.oneCell', thenQ, blockQ, noGotoQ, ↓reduceIte, Nat.reduceEqDiff, reduceCtorEq, aLoad, ti25, getO, pack, bL, Nat.reduceAdd, Nat.reduceLeDiff, aBin, pt25, tyX, GNode.cells, List.length_map]
  refine hK3 _ ?_
  try clear hK3 K3
  refine AWp_cond rfl (fun hb9 => ?_) (fun hb9 => ?_)
  · skip
    cases hb9
  · skip
    refine AWp_seqK fun K4 hK4 => ?_
    refine AWp_region ?_
    refine aops_chunk 2 fun C5 hC5 => ?_
    simp only [bL, ↓aops, ↓aop, ↓aWant, ↓aVal, bS, bA, AV.flat, AV.cl, AV.one, Value.oneCell', thenQ, blockQ, noGotoQ, ↓reduceIte, Nat.reduceEqDiff, reduceCtorEq, aLoad, ti25, getO, pack, Nat.reduceAdd, Nat.reduceLeDiff, tyX, GNode.cells, List.length_map]
    refine hC5 _ ?_
    try clear hC5 C5
    simp only [bL]
    refine aops_chunk 1 fun C6 hC6 => ?_
    simp only [bL, ↓aops, ↓aop, ↓aWant, ↓aVal, bS, bA, AV.flat, AV.cl, AV.one, Value.oneCell', thenQ, blockQ, noGotoQ, ↓reduceIte, Nat.reduceEqDiff, reduceCtorEq, aCallV, tyX, GNode.cells, List.length_map]
    refine GCalls.at (there_calls G i) (.cons (.v _) .nil) (.v _) (i := 0) (j := 1) (k := 2) rfl rfl rfl (by decide) (by decide) (by decide) (by first | omega | (simp only; omega)) (by first | omega | (simp only; omega)) (by first | omega | (simp only; omega)) ?_
    simp only [putO, Nat.reduceEqDiff, ↓reduceIte]
    try simp only [bS, bA, thenQ, blockQ, noGotoQ]
    refine hC6 _ ?_
    try clear hC6 C6
    simp only [bL]
    simp only [↓aops, ↓aop, ↓aWant, ↓aVal, bS, bA, AV.flat, AV.cl, AV.one, Value.oneCell', thenQ, blockQ, noGotoQ, ↓reduceIte, Nat.reduceEqDiff, reduceCtorEq, aUn, tyX, GNode.cells, List.length_map]
    refine hK4 _ ?_
    try clear hK4 K4
    refine AWp_cond rfl (fun hb13 => ?_) (fun hb13 => ?_)
    · skip
      refine AWp_seqK fun K7 hK7 => ?_
      refine AWp_region ?_
      simp only [↓aops, ↓aop, ↓aWant, ↓aVal, bS, bA, AV.flat, AV.cl, AV.one, Value.oneCell', thenQ, blockQ, noGotoQ, ↓reduceIte, Nat.reduceEqDiff, reduceCtorEq, aBuild, zc32, pc32, aFill, splice, bL, Nat.reduceAdd, Nat.reduceLeDiff, aStore, ti32, getO, putO, tyX, GNode.cells, List.length_map]
      refine hK7 _ ?_
      try clear hK7 K7
      refine AWp_ret ?_
      try simp only [thenQ, blockQ, noGotoQ, retQ, aRes, tupOf, bS, bA, aLoad, getO, pack, bL, Nat.reduceAdd, Nat.reduceLeDiff, Nat.reduceEqDiff, ↓reduceIte, ti32, tyX, GNode.cells, List.length_map]
      have ht : G.there i = false := by simpa using hb13
      rw [GS.type_out ht]
      refine ⟨_, enumO 0 (gObs (G.N) (G.V)), ⟨rfl, rfl⟩, .tup ⟨.data (Ty.dataAgg _), .v _ _, trivial⟩, gUnd (by omega) _ _, ?_, ?_, by omega⟩
      · exact Le.tup ⟨Le.agg (by rw [Ty.cells_eq]; exact ⟨.refl _, .refl _, Le.slNil 3, trivial⟩), .refl _, trivial⟩
      · first | (refine ⟨2, ?_, rfl⟩; first | rfl | (simp only [gObs, enumO, List.drop_succ_cons, List.drop_zero, List.map_append, List.map_cons, List.map_nil, List.length_append, List.length_cons, List.length_nil, GNode.cells, List.take_length, Nat.reduceAdd, Nat.zero_add]; done))
    · skip
      have ht : G.there i = true := by simpa using hb13
      have hi : 0 ≤ i ∧ i < (G.N.length : Int) := by simpa [GS.there] using ht
      obtain ⟨hi0, hi1⟩ := hi
      obtain ⟨x, hx⟩ := lookup_at G.N i ⟨hi0, hi1⟩
      refine AWp_seqK fun K8 hK8 => ?_
      refine AWp_region ?_
      refine aops_chunk 4 fun C9 hC9 => ?_
      simp only [bL, ↓aops, ↓aop, ↓aWant, ↓aVal, bS, bA, AV.flat, AV.cl, AV.one, Value.oneCell', thenQ, blockQ, noGotoQ, ↓reduceIte, Nat.reduceEqDiff, reduceCtorEq, aLoad, ti25, getO, pack, Nat.reduceAdd, Nat.reduceLeDiff, aField, fo91_0, ti88, tyX, GNode.cells, List.length_map, hi0, hi1, getD_map_cells hx]
      refine hC9 _ ?_
      try clear hC9 C9
      simp only [bL]
      refine aops_chunk 4 fun C10 hC10 => ?_
      simp only [bL, ↓aops, ↓aop, ↓aWant, ↓aVal, bS, bA, AV.flat, AV.cl, AV.one, Value.oneCell', thenQ, blockQ, noGotoQ, ↓reduceIte, Nat.reduceEqDiff, reduceCtorEq, getO, aIndexA, es88, Int.natCast_nonneg, Int.ofNat_lt, Int.toNat_natCast, List.length_map, Int.le_refl, Int.toNat_zero, Int.toNat_one, Int.reduceLE, aField, fo87_2, Nat.reduceAdd, aLoad, ti3, pack, Nat.reduceLeDiff, tyX, GNode.cells, hi0, hi1, getD_map_cells hx]
      refine hC10 _ ?_
      try clear hC10 C10
      simp only [bL]
      simp only [↓aops, ↓aop, ↓aWant, ↓aVal, bS, bA, AV.flat, AV.cl, AV.one, Value.oneCell', thenQ, blockQ, noGotoQ, ↓reduceIte, Nat.reduceEqDiff, reduceCtorEq, aBin, tyX, GNode.cells, List.length_map, hi0, hi1, getD_map_cells hx]
      refine hK8 _ ?_
      try clear hK8 K8
      refine AWp_cond rfl (fun hb19 => ?_) (fun hb19 => ?_)
      · skip
        refine AWp_seqK fun K11 hK11 => ?_
        refine AWp_region ?_
        simp only [↓aops, ↓aop, ↓aWant, ↓aVal, bS, bA, AV.flat, AV.cl, AV.one, Value.oneCell', thenQ, blockQ, noGotoQ, ↓reduceIte, Nat.reduceEqDiff, reduceCtorEq, aBuild, zc32, pc32, aFill, splice, bL, Nat.reduceAdd, Nat.reduceLeDiff, aStore, ti32, getO, putO, tyX, GNode.cells, List.length_map, hi0, hi1, getD_map_cells hx]
        refine hK11 _ ?_
        try clear hK11 K11
        refine AWp_ret ?_
        try simp only [thenQ, blockQ, noGotoQ, retQ, aRes, tupOf, bS, bA, aLoad, getO, pack, bL, Nat.reduceAdd, Nat.reduceLeDiff, Nat.reduceEqDiff, ↓reduceIte, ti32, tyX, GNode.cells, List.length_map, hi0, hi1, getD_map_cells hx]
        rw [GS.type_in ht hx, if_pos (by simpa using hb19)]
        refine ⟨_, enumO 0 (gObs (G.N) (G.V)), ⟨rfl, rfl⟩, .tup ⟨.data (Ty.dataAgg _), .v _ _, trivial⟩, gUnd (by omega) _ _, ?_, ?_, by omega⟩
        · exact Le.tup ⟨Le.agg (by rw [Ty.cells_eq]; exact ⟨.refl _, .refl _, Le.slNil 3, trivial⟩), .refl _, trivial⟩
        · first | (refine ⟨2, ?_, rfl⟩; first | rfl | (simp only [gObs, enumO, List.drop_succ_cons, List.drop_zero, List.map_append, List.map_cons, List.map_nil, List.length_append, List.length_cons, List.length_nil, GNode.cells, List.take_length, Nat.reduceAdd, Nat.zero_add]; done))
      · skip
        refine AWp_skip ?_
        try simp only [thenQ, blockQ, noGotoQ]
        refine hK2 _ ?_
        try clear hK2 K2
        refine AWp_seqK fun K12 hK12 => ?_
        refine AWp_region ?_
        simp only [↓aops, ↓aop, ↓aWant, ↓aVal, bS, bA, AV.flat, AV.cl, AV.one, Value.oneCell', thenQ, blockQ, noGotoQ, ↓reduceIte, Nat.reduceEqDiff, reduceCtorEq, zc82, bL, tyX, GNode.cells, List.length_map, hi0, hi1, getD_map_cells hx]
        refine hK12 _ ?_
        try clear hK12 K12
        refine AWp_seqK fun K13 hK13 => ?_
        refine AWp_region ?_
        simp only [↓aops, ↓aop, ↓aWant, ↓aVal, bS, bA, AV.flat, AV.cl, AV.one, Value.oneCell', thenQ, blockQ, noGotoQ, ↓reduceIte, Nat.reduceEqDiff, reduceCtorEq, bL, aStore, ti82, getO, putO, splice, Nat.reduceAdd, Nat.reduceLeDiff, tyX, GNode.cells, List.length_map, hi0, hi1, getD_map_cells hx]
        refine hK13 _ ?_
        try clear hK13 K13
        refine AWp_seqK fun K14 hK14 => ?_
        refine AWp_region ?_
        refine aops_chunk 2 fun C15 hC15 => ?_
        simp only [bL, ↓aops, ↓aop, ↓aWant, ↓aVal, bS, bA, AV.flat, AV.cl, AV.one, Value.oneCell', thenQ, blockQ, noGotoQ, ↓reduceIte, Nat.reduceEqDiff, reduceCtorEq, aLoad, ti82, getO, pack, Nat.reduceAdd, Nat.reduceLeDiff, tyX, GNode.cells, List.length_map, hi0, hi1, getD_map_cells hx]
        refine hC15 _ ?_
        try clear hC15 C15
        simp only [bL]
        refine aops_chunk 1 fun C16 hC16 => ?_
        simp only [bL, ↓aops, ↓aop, ↓aWant, ↓aVal, bS, bA, AV.flat, AV.cl, AV.one, Value.oneCell', thenQ, blockQ, noGotoQ, ↓reduceIte, Nat.reduceEqDiff, reduceCtorEq, aCallV, tyX, GNode.cells, List.length_map, hi0, hi1, getD_map_cells hx]
        refine RCalls.at (args' := [.v (.int .i64 i), .ptr 3 0, .ptr 5 0]) (i := 0) (j := 1) (k := 2) (a := 3) (b := 5) (T1_calls (read_calls G.V hN _ i rfl hi0 hi1)) (Ty.dataAgg _) ⟨.v _, .ptr rfl, .ptr rfl, trivial⟩ rfl rfl rfl rfl rfl (by decide) (by simp) ?_
        simp only [putsO, rObsAt, List.zip_cons_cons, List.zip_nil_right, putO, Nat.reduceEqDiff, ↓reduceIte]
        try simp only [bS, bA, thenQ, blockQ, noGotoQ]
        refine hC16 _ ?_
        try clear hC16 C16
        simp only [bL]
        simp only [↓aops, ↓aop, ↓aWant, ↓aVal, bS, bA, AV.flat, AV.cl, AV.one, Value.oneCell', thenQ, blockQ, noGotoQ, ↓reduceIte, Nat.reduceEqDiff, reduceCtorEq, aStore, ti32, getO, putO, splice, bL, Nat.reduceAdd, Nat.reduceLeDiff, tyX, GNode.cells, List.length_map, hi0, hi1, getD_map_cells hx]
        refine hK14 _ ?_
        try clear hK14 K14
        refine AWp_ret ?_
        try simp only [thenQ, blockQ, noGotoQ, retQ, aRes, tupOf, bS, bA, aLoad, getO, pack, bL, Nat.reduceAdd, Nat.reduceLeDiff, Nat.reduceEqDiff, ↓reduceIte, ti32, tyX, GNode.cells, List.length_map, hi0, hi1, getD_map_cells hx]
        rw [GS.type_in ht hx, if_neg (by simpa using hb19)]
        refine ⟨_, enumO 0 (gObs (G.N) (G.V)), ⟨rfl, rfl⟩, .tup ⟨.data (Ty.dataAgg _), .v _ _, trivial⟩, gUnd (by omega) _ _, ?_, ?_, by omega⟩
        · exact Le.refl _
        · first | (refine ⟨3, ?_, rfl⟩; first | rfl | (simp only [gObs, enumO, List.drop_succ_cons, List.drop_zero, List.map_append, List.map_cons, List.map_nil, List.length_append, List.length_cons, List.length_nil, GNode.cells, List.take_length, Nat.reduceAdd, Nat.zero_add]; done))
end Go.Proofs.Ytohdoloalolpfaa
