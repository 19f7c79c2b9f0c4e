import Derived.Test.YtohdoloalolpfaaTypes
namespace Go.Proofs.Ytohdoloalolpfaa
open Go Go.RowKit
set_option maxRecDepth 100000
set_option maxHeartbeats 1000000
set_option linter.unusedSimpArgs false
set_option linter.unusedVariables false
attribute [local irreducible] aops dRun
mutual
def Ty.room : Ty → Int → Nat → Int
  | .mk _ _ _, _, 0 => -1
  | .mk _ _ ps, n, d + 1 => Ty.roomL ps (n - 1) d
def Ty.roomL : List Ty → Int → Nat → Int
  | [], n, _ => n
  | p :: ps, n, d => if n < 0 then n else Ty.roomL ps (Ty.room p n d) d
end
theorem Ty.room_zero (t : Ty) (n : Int) : t.room n 0 = -1 := by cases t; simp [Ty.room]
theorem Ty.room_succ (t : Ty) (n : Int) (d : Nat) : t.room n (d + 1) = Ty.roomL t.ps (n - 1) d := by cases t; simp [Ty.room, Ty.ps]
theorem Ty.roomL_neg : ∀ (ps : List Ty) {n : Int} {d : Nat}, n < 0 → Ty.roomL ps n d = n
  | [], n, d, h => by simp [Ty.roomL]
  | p :: ps, n, d, h => by simp [Ty.roomL, h]
theorem Ty.roomL_append : ∀ (xs bs : List Ty) (n : Int) (d : Nat), Ty.roomL (xs ++ bs) n d = Ty.roomL bs (Ty.roomL xs n d) d
  | [], bs, n, d => by simp [Ty.roomL]
  | x :: xs, bs, n, d => by
    simp only [List.cons_append, Ty.roomL]
    split
    · rename_i h; rw [Ty.roomL_neg bs h]
    · exact Ty.roomL_append xs bs _ d
theorem Ty.room_le : ∀ (t : Ty) (n : Int) (d : Nat), 0 ≤ n → -1 ≤ t.room n d ∧ t.room n d ≤ n - 1 := by
  refine Ty.ind fun t ih => ?_
  have key : ∀ (ps : List Ty), (∀ p ∈ ps, ∀ (n : Int) (d : Nat), 0 ≤ n → -1 ≤ p.room n d ∧ p.room n d ≤ n - 1) → ∀ (n : Int) (d : Nat), -1 ≤ n → -1 ≤ Ty.roomL ps n d ∧ Ty.roomL ps n d ≤ n := by
    intro ps
    induction ps with
    | nil => intro _ n d h; simp [Ty.roomL]; exact h
    | cons p ps ihp =>
      intro hp n d h
      simp only [Ty.roomL]
      split
      · omega
      · have h1 := hp p (by simp) n d (by omega)
        have h2 := ihp (fun q hq => hp q (by simp [hq])) (p.room n d) d h1.1
        omega
  intro n d h
  cases d with
  | zero => rw [Ty.room_zero]; omega
  | succ d =>
    rw [Ty.room_succ]
    have := key t.ps ih (n - 1) d (by omega)
    omega
theorem Ty.roomL_le (ps : List Ty) (n : Int) (d : Nat) (h : -1 ≤ n) : -1 ≤ Ty.roomL ps n d ∧ Ty.roomL ps n d ≤ n := by
  have := Ty.room_le (.mk 0 0 ps) (n + 1) (d + 1) (by omega)
  rw [Ty.room_succ] at this
  simp only [Ty.ps] at this
  rw [show n + 1 - 1 = n by omega] at this
  exact this
theorem Ty.roomL_step {ps : List Ty} {s : Nat} {p : Ty} (hp : ps[s]? = some p) (n : Int) (d : Nat) (h : 0 ≤ Ty.roomL (ps.take s) n d) : Ty.roomL (ps.take (s + 1)) n d = p.room (Ty.roomL (ps.take s) n d) d := by
  rw [List.take_add_one, hp, Ty.roomL_append]
  simp only [Option.toList_some, Ty.roomL]
  rw [if_neg (by omega)]
theorem Ty.roomL_stop (ps : List Ty) (s : Nat) (n : Int) (d : Nat) (h : Ty.roomL (ps.take s) n d < 0) : Ty.roomL ps n d = Ty.roomL (ps.take s) n d := by
  conv => lhs; rw [← List.take_append_drop s ps]
  rw [Ty.roomL_append, Ty.roomL_neg _ h]
/-- as the program counts it -/
def addW (a b : Int) : Int := IntKind.i64.wrap (a + b)
mutual
def Ty.sizeW : Ty → Int
  | .mk _ _ ps => Ty.sizeWL 1 ps
def Ty.sizeWL : Int → List Ty → Int
  | a, [] => a
  | a, p :: ps => Ty.sizeWL (addW a (Ty.sizeW p)) ps
end
theorem Ty.sizeW_eq (t : Ty) : t.sizeW = Ty.sizeWL 1 t.ps := by cases t; simp [Ty.sizeW, Ty.ps]
theorem Ty.sizeWL_append : ∀ (a : Int) (ps qs : List Ty), Ty.sizeWL a (ps ++ qs) = Ty.sizeWL (Ty.sizeWL a ps) qs
  | a, [], qs => by simp [Ty.sizeWL]
  | a, p :: ps, qs => by simp [Ty.sizeWL, Ty.sizeWL_append _ ps qs]
theorem Ty.sizeWL_step {ps : List Ty} {s : Nat} {p : Ty} (hp : ps[s]? = some p) (a : Int) : Ty.sizeWL a (ps.take (s + 1)) = addW (Ty.sizeWL a (ps.take s)) p.sizeW := by
  rw [List.take_add_one, hp, Ty.sizeWL_append]
  simp [Ty.sizeWL]
theorem Size_pure : ∀ (T : Ty), APure Try.prog 47 [.agg T.cells] (.v (.int .i64 T.sizeW)) := by
  refine Ty.ind fun T ih => ?_
  refine APure.mkL (.cons T.dataAgg .nil) (.v _) ?_
  refine ACalls_intro Try.func47 (by kernel_rfl) rfl (by rw [Try.ntmps47]; simp) (fun hm => ?_)
  simp only [Try.ntmps47, Try.results47, List.length_cons, List.length_nil, Nat.reduceAdd, Nat.reduceSub, List.replicate_succ, List.replicate_zero, List.cons_append, List.nil_append]
  have hm1 := hm.wide (t := T) (by simp)
  refine AWp_seqK fun K1 hK1 => ?_
  refine AWp_region ?_
  simp only [↓aops, ↓aop, ↓aWant, ↓aVal, bS, bA, AV.flat, AV.cl, AV.one, Value.oneCell', thenQ, blockQ, noGotoQ, ↓reduceIte, Nat.reduceEqDiff, reduceCtorEq, tyX]
  refine hK1 _ ?_
  try clear hK1 K1
  refine AWp_seqK fun K2 hK2 => ?_
  refine AWp_region ?_
  simp only [↓aops, ↓aop, ↓aWant, ↓aVal, bS, bA, AV.flat, AV.cl, AV.one, Value.oneCell', thenQ, blockQ, noGotoQ, ↓reduceIte, Nat.reduceEqDiff, reduceCtorEq, tyX]
  refine hK2 _ ?_
  try clear hK2 K2
  refine AWp_seqK fun K3 hK3 => ?_
  refine AWp_seqK fun K4 hK4 => ?_
  refine AWp_region ?_
  simp only [↓aops, ↓aop, ↓aWant, ↓aVal, bS, bA, AV.flat, AV.cl, AV.one, Value.oneCell', thenQ, blockQ, noGotoQ, ↓reduceIte, Nat.reduceEqDiff, reduceCtorEq, tyX]
  refine hK4 _ ?_
  try clear hK4 K4
  refine AWp_block ?_
  refine AWp_loopM (σ := Nat) [false, true, false, true, true, false, false, false, false, false, false, false, false, false, false, false, false, false, false, false, false] (fun s => s ≤ T.ps.length) (fun s => [(3, .v (.int .i64 (Ty.sizeWL 1 (T.ps.take s)))), (4, .v (.int .i64 (s : Int)))]) (fun s => []) (fun s => T.ps.length - s) 0 (by omega) ?_ (fun s hs => ?_)
  · skip
    simp only [maskL, setsL, putsO, putO, bA, Nat.reduceEqDiff, ↓reduceIte, bL, Ty.sizeWL]
    exact Weak.mk (by simp only [LeL, Le.refl, Le.any, Le.slNil, and_self, Int.natCast_add, Int.cast_ofNat_Int, Int.natCast_one]) (fun _ _ h => h) rfl rfl
  simp only [maskL, setsL, putsO, putO, bA, Nat.reduceEqDiff, ↓reduceIte]
  refine AWp_seqK fun K5 hK5 => ?_
  refine AWp_seqK fun K6 hK6 => ?_
  refine AWp_region ?_
  refine aops_chunk 4 fun C7 hC7 => ?_
  simp only [bL, ↓aops, ↓aop, ↓aWant, ↓aVal, bS, bA, AV.flat, AV.cl, AV.one, Value.oneCell', thenQ, blockQ, noGotoQ, ↓reduceIte, Nat.reduceEqDiff, reduceCtorEq, aField, fo32_2, Nat.reduceAdd, aLoad, ti22, getO, pack, Nat.reduceLeDiff, aLenX, aLen, ln22, List.length_map, tyX]
  refine hC7 _ ?_
  try clear hC7 C7
  simp only [bL]
  simp only [↓aops, ↓aop, ↓aWant, ↓aVal, bS, bA, AV.flat, AV.cl, AV.one, Value.oneCell', thenQ, blockQ, noGotoQ, ↓reduceIte, Nat.reduceEqDiff, reduceCtorEq, aBin, tyX]
  refine hK6 _ ?_
  try clear hK6 K6
  refine AWp_cond rfl (fun hb9 => ?_) (fun hb9 => ?_)
  · skip
    have hk : s < T.ps.length := by simpa using hb9
    obtain ⟨p, hp⟩ : ∃ p, T.ps[s]? = some p := ⟨_, List.getElem?_eq_getElem hk⟩
    have hw : IntKind.i64.wrap ((s : Int) + 1) = (s : Int) + 1 := wrap_in (by omega) (by have := hm1.len; simp only [maxLen] at this; omega)
    refine AWp_skip ?_
    try simp only [thenQ, blockQ, noGotoQ]
    refine hK5 _ ?_
    try clear hK5 K5
    refine AWp_seqK fun K8 hK8 => ?_
    refine AWp_block ?_
    refine AWp_region ?_
    refine aops_chunk 4 fun C9 hC9 => ?_
    simp only [bL, ↓aops, ↓aop, ↓aWant, ↓aVal, bS, bA, AV.flat, AV.cl, AV.one, Value.oneCell', thenQ, blockQ, noGotoQ, ↓reduceIte, Nat.reduceEqDiff, reduceCtorEq, aField, fo32_2, Nat.reduceAdd, aLoad, ti22, getO, pack, Nat.reduceLeDiff, tyX, hk, getD_map_cells hp, Int.natCast_add, Int.natCast_one, hw, Ty.sizeWL_step hp, addW]
    refine hC9 _ ?_
    try clear hC9 C9
    simp only [bL]
    refine aops_chunk 2 fun C10 hC10 => ?_
    simp only [bL, ↓aops, ↓aop, ↓aWant, ↓aVal, bS, bA, AV.flat, AV.cl, AV.one, Value.oneCell', thenQ, blockQ, noGotoQ, ↓reduceIte, Nat.reduceEqDiff, reduceCtorEq, getO, aIndexA, es22, Int.natCast_nonneg, Int.ofNat_lt, Int.toNat_natCast, List.length_map, Int.le_refl, Int.toNat_zero, Int.toNat_one, Int.reduceLE, aLoad, ti32, pack, Nat.reduceAdd, Nat.reduceLeDiff, tyX, hk, getD_map_cells hp, Int.natCast_add, Int.natCast_one, hw, Ty.sizeWL_step hp, addW]
    refine hC10 _ ?_
    try clear hC10 C10
    simp only [bL]
    refine aops_chunk 1 fun C11 hC11 => ?_
    simp only [bL, ↓aops, ↓aop, ↓aWant, ↓aVal, bS, bA, AV.flat, AV.cl, AV.one, Value.oneCell', thenQ, blockQ, noGotoQ, ↓reduceIte, Nat.reduceEqDiff, reduceCtorEq, aCallV, tyX, hk, getD_map_cells hp, Int.natCast_add, Int.natCast_one, hw, Ty.sizeWL_step hp, addW]
    refine APure.call (ih p (List.mem_of_getElem? hp)) ?_
    try simp only [bS, bA, thenQ, blockQ, noGotoQ]
    refine hC11 _ ?_
    try clear hC11 C11
    simp only [bL]
    simp only [↓aops, ↓aop, ↓aWant, ↓aVal, bS, bA, AV.flat, AV.cl, AV.one, Value.oneCell', thenQ, blockQ, noGotoQ, ↓reduceIte, Nat.reduceEqDiff, reduceCtorEq, aBin, tyX, hk, getD_map_cells hp, Int.natCast_add, Int.natCast_one, hw, Ty.sizeWL_step hp, addW]
    refine hK8 _ ?_
    try clear hK8 K8
    refine AWp_region ?_
    simp only [↓aops, ↓aop, ↓aWant, ↓aVal, bS, bA, AV.flat, AV.cl, AV.one, Value.oneCell', thenQ, blockQ, noGotoQ, ↓reduceIte, Nat.reduceEqDiff, reduceCtorEq, aBin, tyX, hk, getD_map_cells hp, Int.natCast_add, Int.natCast_one, hw, Ty.sizeWL_step hp, addW]
    refine ⟨(s + 1), (by omega), by omega, ?_⟩
    simp only [maskL, setsL, putsO, putO, bA, Nat.reduceEqDiff, ↓reduceIte, hk, getD_map_cells hp, Int.natCast_add, Int.natCast_one, hw, Ty.sizeWL_step hp, addW]
    exact Weak.mk (by simp only [LeL, Le.refl, Le.any, Le.slNil, and_self, Int.natCast_add, Int.cast_ofNat_Int, Int.natCast_one]) (fun _ _ h => h) rfl rfl
  · skip
    have hk : s = T.ps.length := by simp at hb9; omega
    refine AWp_exit ?_
    simp only [thenQ, blockQ, noGotoQ, bA, Nat.reduceEqDiff, ↓reduceIte]
    refine hK3 _ ?_
    try clear hK3 K3
    refine AWp_seqK fun K12 hK12 => ?_
    refine AWp_region ?_
    simp only [↓aops, ↓aop, ↓aWant, ↓aVal, bS, bA, AV.flat, AV.cl, AV.one, Value.oneCell', thenQ, blockQ, noGotoQ, ↓reduceIte, Nat.reduceEqDiff, reduceCtorEq, tyX]
    refine hK12 _ ?_
    try clear hK12 K12
    refine AWp_ret ?_
    try simp only [thenQ, blockQ, noGotoQ, retQ, aRes, tupOf, bS, bA]
    refine Le.of_eq (congrArg (fun n => AV.v (.int .i64 n)) ?_)
    rw [Ty.sizeW_eq, hk, List.take_length]
theorem room_pure : ∀ (T : Ty) (n : Int) (d : Nat) (hn : 0 ≤ n) (hn2 : n ≤ 1099511627776) (hd : d ≤ 1099511627776), APure Try.prog 59 [.agg T.cells, .v (.int .i64 n), .v (.int .i64 d)] (.v (.int .i64 (T.room n d))) := by
  refine Ty.ind fun T ih => ?_
  intro n d hn hn2 hd
  refine APure.mkL (.cons T.dataAgg (.cons (.v _) (.cons (.v _) .nil))) (.v _) ?_
  refine ACalls_intro Try.func59 (by kernel_rfl) rfl (by rw [Try.ntmps59]; simp) (fun hm => ?_)
  simp only [Try.ntmps59, Try.results59, List.length_cons, List.length_nil, Nat.reduceAdd, Nat.reduceSub, List.replicate_succ, List.replicate_zero, List.cons_append, List.nil_append]
  have hm1 := hm.wide (t := T) (by simp)
  have hw1 : IntKind.i64.wrap (n - 1) = n - 1 := wrap_in (by omega) (by omega)
  refine AWp_seqK fun K1 hK1 => ?_
  refine AWp_region ?_
  simp only [↓aops, ↓aop, ↓aWant, ↓aVal, bS, bA, AV.flat, AV.cl, AV.one, Value.oneCell', thenQ, blockQ, noGotoQ, ↓reduceIte, Nat.reduceEqDiff, reduceCtorEq, tyX, hw1]
  refine hK1 _ ?_
  try clear hK1 K1
  refine AWp_seqK fun K2 hK2 => ?_
  refine AWp_region ?_
  simp only [↓aops, ↓aop, ↓aWant, ↓aVal, bS, bA, AV.flat, AV.cl, AV.one, Value.oneCell', thenQ, blockQ, noGotoQ, ↓reduceIte, Nat.reduceEqDiff, reduceCtorEq, aBin, tyX, hw1]
  refine hK2 _ ?_
  try clear hK2 K2
  refine AWp_seqK fun K3 hK3 => ?_
  refine AWp_seqK fun K4 hK4 => ?_
  refine AWp_region ?_
  simp only [↓aops, ↓aop, ↓aWant, ↓aVal, bS, bA, AV.flat, AV.cl, AV.one, Value.oneCell', thenQ, blockQ, noGotoQ, ↓reduceIte, Nat.reduceEqDiff, reduceCtorEq, aBin, tyX, hw1]
  refine hK4 _ ?_
  try clear hK4 K4
  refine AWp_cond rfl (fun hb11 => ?_) (fun hb11 => ?_)
  · skip
    have hd0 : d = 0 := by simpa using hb11
    refine AWp_seqK fun K5 hK5 => ?_
    refine AWp_region ?_
    simp only [↓aops, ↓aop, ↓aWant, ↓aVal, bS, bA, AV.flat, AV.cl, AV.one, Value.oneCell', thenQ, blockQ, noGotoQ, ↓reduceIte, Nat.reduceEqDiff, reduceCtorEq, tyX, hw1]
    refine hK5 _ ?_
    try clear hK5 K5
    refine AWp_ret ?_
    try simp only [thenQ, blockQ, noGotoQ, retQ, aRes, tupOf, bS, bA]
    refine Le.of_eq (congrArg (fun n => AV.v (.int .i64 n)) ?_)
    first | (rw [hd0, Ty.room_zero]; done) | skip
    all_goals (rw [Ty.room_succ]; simp only [decide_eq_false_iff_not] at hb20; rcases Nat.lt_or_ge s T.ps.length with h5 | h5 <;> first | (rw [List.take_of_length_le h5]; done) | (rw [Ty.roomL_stop T.ps s _ _ (by omega)]; done))
  · skip
    obtain ⟨e, rfl⟩ : ∃ e, d = e + 1 := ⟨d - 1, by simp at hb11; omega⟩
    have hw2 : IntKind.i64.wrap ((e : Int) + 1 - 1) = (e : Int) := by rw [wrap_in (by omega) (by omega)]; omega
    refine AWp_skip ?_
    try simp only [thenQ, blockQ, noGotoQ]
    refine hK3 _ ?_
    try clear hK3 K3
    refine AWp_seqK fun K6 hK6 => ?_
    refine AWp_seqK fun K7 hK7 => ?_
    refine AWp_region ?_
    simp only [↓aops, ↓aop, ↓aWant, ↓aVal, bS, bA, AV.flat, AV.cl, AV.one, Value.oneCell', thenQ, blockQ, noGotoQ, ↓reduceIte, Nat.reduceEqDiff, reduceCtorEq, tyX, hw1]
    refine hK7 _ ?_
    try clear hK7 K7
    refine AWp_block ?_
    refine AWp_loopM (σ := Nat) [false, true, true, true, false, false, false, true, false, false, false, false, false, false, false, false, false, false, false, false, false, false, false, false, false, false, false, false, false, false, false, false, false] (fun s => s ≤ T.ps.length) (fun s => [(1, .v (.int .i64 (Ty.roomL (T.ps.take s) (n - 1) e))), (7, .v (.int .i64 (s : Int)))]) (fun s => []) (fun s => T.ps.length - s) 0 (by omega) ?_ (fun s hs => ?_)
    · skip
      simp only [maskL, setsL, putsO, putO, bA, Nat.reduceEqDiff, ↓reduceIte, bL, Ty.roomL]
      exact Weak.mk (by simp only [LeL, Le.refl, Le.any, Le.slNil, and_self, Int.natCast_add, Int.cast_ofNat_Int, Int.natCast_one]) (fun _ _ h => h) rfl rfl
    simp only [maskL, setsL, putsO, putO, bA, Nat.reduceEqDiff, ↓reduceIte]
    refine AWp_seqK fun K8 hK8 => ?_
    refine AWp_joinM [false, true, true, true, false, false, false, true, false, false, false, false, false, false, false, false, false, false, false, false, true, false, false, false, false, false, false, false, false, false, false, false, false] ([(20, .v (.bool (decide (s < T.ps.length ∧ 0 ≤ Ty.roomL (T.ps.take s) (n - 1) e))))]) ([]) ?_ ?_
    · skip
      refine AWp_region ?_
      refine aops_chunk 4 fun C9 hC9 => ?_
      simp only [bL, ↓aops, ↓aop, ↓aWant, ↓aVal, bS, bA, AV.flat, AV.cl, AV.one, Value.oneCell', thenQ, blockQ, noGotoQ, ↓reduceIte, Nat.reduceEqDiff, reduceCtorEq, aField, fo32_2, Nat.reduceAdd, aLoad, ti22, getO, pack, Nat.reduceLeDiff, aLenX, aLen, ln22, List.length_map, tyX, hw1]
      refine hC9 _ ?_
      try clear hC9 C9
      simp only [bL]
      refine aops_chunk 2 fun C10 hC10 => ?_
      simp only [bL, ↓aops, ↓aop, ↓aWant, ↓aVal, bS, bA, AV.flat, AV.cl, AV.one, Value.oneCell', thenQ, blockQ, noGotoQ, ↓reduceIte, Nat.reduceEqDiff, reduceCtorEq, aBin, tyX, hw1]
      refine hC10 _ ?_
      try clear hC10 C10
      simp only [bL]
      refine aops_case 17 rfl (fun hc17 => ?_) (fun hc17 => ?_)
      · simp only [List.set_cons_zero, List.set_cons_succ]
        simp only [↓aops, ↓aop, ↓aWant, ↓aVal, bS, bA, AV.flat, AV.cl, AV.one, Value.oneCell', thenQ, blockQ, noGotoQ, ↓reduceIte, Nat.reduceEqDiff, reduceCtorEq, bL, undef, aBin, aBool, tyX, hw1]
        try simp only [maskL, setsL, putsO, putO, bA, Nat.reduceEqDiff, ↓reduceIte]
        refine Weak.mk ?_ (fun _ _ h => h) rfl rfl
        simp only [LeL, Le.refl, Le.any, and_self, and_true, true_and]
        all_goals (refine Le.of_eq (congrArg (fun b => AV.v (.bool b)) ?_); rw [Bool.eq_iff_iff]; simp only [decide_eq_true_eq, decide_eq_false_iff_not, ge_iff_le, Bool.false_eq_true, false_iff, Int.ofNat_lt] at *; omega)
      · simp only [List.set_cons_zero, List.set_cons_succ]
        simp only [↓aops, ↓aop, ↓aWant, ↓aVal, bS, bA, AV.flat, AV.cl, AV.one, Value.oneCell', thenQ, blockQ, noGotoQ, ↓reduceIte, Nat.reduceEqDiff, reduceCtorEq, bL, undef, aBin, aBool, tyX, hw1]
        try simp only [maskL, setsL, putsO, putO, bA, Nat.reduceEqDiff, ↓reduceIte]
        refine Weak.mk ?_ (fun _ _ h => h) rfl rfl
        simp only [LeL, Le.refl, Le.any, and_self, and_true, true_and]
        all_goals (refine Le.of_eq (congrArg (fun b => AV.v (.bool b)) ?_); rw [Bool.eq_iff_iff]; simp only [decide_eq_true_eq, decide_eq_false_iff_not, ge_iff_le, Bool.false_eq_true, false_iff, Int.ofNat_lt] at *; omega)
    simp only [maskL, setsL, putsO, putO, bA, Nat.reduceEqDiff, ↓reduceIte]
    refine AWp_cond rfl (fun hb20 => ?_) (fun hb20 => ?_)
    · skip
      have hk : s < T.ps.length := by simp only [decide_eq_true_eq] at hb20; exact hb20.1
      obtain ⟨p, hp⟩ : ∃ p, T.ps[s]? = some p := ⟨_, List.getElem?_eq_getElem hk⟩
      have hw : IntKind.i64.wrap ((s : Int) + 1) = (s : Int) + 1 := wrap_in (by omega) (by have := hm1.len; simp only [maxLen] at this; omega)
      have hrm : 0 ≤ Ty.roomL (T.ps.take s) (n - 1) e := by simp only [decide_eq_true_eq] at hb20; exact hb20.2
      have hrl := Ty.roomL_le (T.ps.take s) (n - 1) e (by omega)
      refine AWp_skip ?_
      try simp only [thenQ, blockQ, noGotoQ]
      refine hK8 _ ?_
      try clear hK8 K8
      refine AWp_seqK fun K11 hK11 => ?_
      refine AWp_block ?_
      refine AWp_region ?_
      refine aops_chunk 4 fun C12 hC12 => ?_
      simp only [bL, ↓aops, ↓aop, ↓aWant, ↓aVal, bS, bA, AV.flat, AV.cl, AV.one, Value.oneCell', thenQ, blockQ, noGotoQ, ↓reduceIte, Nat.reduceEqDiff, reduceCtorEq, aField, fo32_2, Nat.reduceAdd, aLoad, ti22, getO, pack, Nat.reduceLeDiff, aIndexA, es22, Int.natCast_nonneg, Int.ofNat_lt, Int.toNat_natCast, List.length_map, Int.le_refl, Int.toNat_zero, Int.toNat_one, Int.reduceLE, tyX, hw1, hk, getD_map_cells hp, Int.natCast_add, Int.natCast_one, hw, Ty.roomL_step hp (n - 1) e hrm, hw2]
      refine hC12 _ ?_
      try clear hC12 C12
      simp only [bL]
      refine aops_chunk 4 fun C13 hC13 => ?_
      simp only [bL, ↓aops, ↓aop, ↓aWant, ↓aVal, bS, bA, AV.flat, AV.cl, AV.one, Value.oneCell', thenQ, blockQ, noGotoQ, ↓reduceIte, Nat.reduceEqDiff, reduceCtorEq, aLoad, ti32, getO, pack, Nat.reduceAdd, Nat.reduceLeDiff, aBin, tyX, hw1, hk, getD_map_cells hp, Int.natCast_add, Int.natCast_one, hw, Ty.roomL_step hp (n - 1) e hrm, hw2]
      refine hC13 _ ?_
      try clear hC13 C13
      simp only [bL]
      refine aops_chunk 1 fun C14 hC14 => ?_
      simp only [bL, ↓aops, ↓aop, ↓aWant, ↓aVal, bS, bA, AV.flat, AV.cl, AV.one, Value.oneCell', thenQ, blockQ, noGotoQ, ↓reduceIte, Nat.reduceEqDiff, reduceCtorEq, aCallV, tyX, hw1, hk, getD_map_cells hp, Int.natCast_add, Int.natCast_one, hw, Ty.roomL_step hp (n - 1) e hrm, hw2]
      refine APure.call (ih p (List.mem_of_getElem? hp) _ e hrm (by omega) (by omega)) ?_
      try simp only [bS, bA, thenQ, blockQ, noGotoQ]
      refine hC14 _ ?_
      try clear hC14 C14
      simp only [bL]
      simp only [↓aops, ↓aop, ↓aWant, ↓aVal, bS, bA, AV.flat, AV.cl, AV.one, Value.oneCell', thenQ, blockQ, noGotoQ, ↓reduceIte, Nat.reduceEqDiff, reduceCtorEq, tyX, hw1, hk, getD_map_cells hp, Int.natCast_add, Int.natCast_one, hw, Ty.roomL_step hp (n - 1) e hrm, hw2]
      refine hK11 _ ?_
      try clear hK11 K11
      refine AWp_region ?_
      simp only [↓aops, ↓aop, ↓aWant, ↓aVal, bS, bA, AV.flat, AV.cl, AV.one, Value.oneCell', thenQ, blockQ, noGotoQ, ↓reduceIte, Nat.reduceEqDiff, reduceCtorEq, aBin, tyX, hw1, hk, getD_map_cells hp, Int.natCast_add, Int.natCast_one, hw, Ty.roomL_step hp (n - 1) e hrm, hw2]
      refine ⟨(s + 1), (by omega), by omega, ?_⟩
      simp only [maskL, setsL, putsO, putO, bA, Nat.reduceEqDiff, ↓reduceIte, hk, getD_map_cells hp, Int.natCast_add, Int.natCast_one, hw, Ty.roomL_step hp (n - 1) e hrm, hw2]
      exact Weak.mk (by simp only [LeL, Le.refl, Le.any, Le.slNil, and_self, Int.natCast_add, Int.cast_ofNat_Int, Int.natCast_one]) (fun _ _ h => h) rfl rfl
    · skip
      refine AWp_exit ?_
      simp only [thenQ, blockQ, noGotoQ, bA, Nat.reduceEqDiff, ↓reduceIte]
      refine hK6 _ ?_
      try clear hK6 K6
      refine AWp_seqK fun K15 hK15 => ?_
      refine AWp_region ?_
      simp only [↓aops, ↓aop, ↓aWant, ↓aVal, bS, bA, AV.flat, AV.cl, AV.one, Value.oneCell', thenQ, blockQ, noGotoQ, ↓reduceIte, Nat.reduceEqDiff, reduceCtorEq, tyX, hw1]
      refine hK15 _ ?_
      try clear hK15 K15
      refine AWp_ret ?_
      try simp only [thenQ, blockQ, noGotoQ, retQ, aRes, tupOf, bS, bA]
      refine Le.of_eq (congrArg (fun n => AV.v (.int .i64 n)) ?_)
      first | (rw [hd0, Ty.room_zero]; done) | skip
      all_goals (rw [Ty.room_succ]; simp only [decide_eq_false_iff_not] at hb20; rcases Nat.lt_or_ge s T.ps.length with h5 | h5 <;> first | (rw [List.take_of_length_le h5]; done) | (rw [Ty.roomL_stop T.ps s _ _ (by omega)]; done))
end Go.Proofs.Ytohdoloalolpfaa
