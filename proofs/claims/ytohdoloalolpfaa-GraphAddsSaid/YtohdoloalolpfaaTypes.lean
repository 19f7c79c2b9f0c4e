import Derived.Test.YtohdoloalolpfaaRight
namespace Go.Proofs.Ytohdoloalolpfaa
open Go Go.RowKit
set_option maxRecDepth 100000
set_option maxHeartbeats 1000000
set_option linter.unusedSimpArgs false
set_option linter.unusedVariables false
attribute [local irreducible] aops dRun
mutual
/-- a type whose variables have other numbers -/
def Ty.mapV (f : Int → Int) : Ty → Ty
  | .mk k n ps => .mk k (if k = 1 then f n else n) (Ty.mapVL f ps)
def Ty.mapVL (f : Int → Int) : List Ty → List Ty
  | [] => []
  | p :: ps => Ty.mapV f p :: Ty.mapVL f ps
end
theorem Ty.mapVL_eq (f : Int → Int) : ∀ ps, Ty.mapVL f ps = ps.map (Ty.mapV f)
  | [] => by simp [Ty.mapVL]
  | p :: ps => by simp [Ty.mapVL, Ty.mapVL_eq f ps]
theorem Ty.mapV_eq (f : Int → Int) (t : Ty) : t.mapV f = .mk t.k (if t.k = 1 then f t.n else t.n) (t.ps.map (Ty.mapV f)) := by
  cases t; rw [Ty.mapV, Ty.mapVL_eq]; rfl
theorem Ty.eta (t : Ty) : Ty.mk t.k t.n t.ps = t := by cases t; rfl
theorem Ty.mapV_id : ∀ t : Ty, t.mapV (fun n => n) = t := by
  refine Ty.ind fun t ih => ?_
  rw [Ty.mapV_eq]
  have e : t.ps.map (Ty.mapV fun n => n) = t.ps := by conv => rhs; rw [← List.map_id t.ps]
                                                      exact List.map_congr_left ih
  rw [e]; simp [Ty.eta]
mutual
def Ty.cnt : Ty → Nat
  | .mk _ _ ps => 1 + Ty.cntL ps
def Ty.cntL : List Ty → Nat
  | [] => 0
  | p :: ps => Ty.cnt p + Ty.cntL ps
end
theorem Ty.cnt_eq (t : Ty) : t.cnt = 1 + Ty.cntL t.ps := by cases t; simp [Ty.cnt, Ty.ps]
theorem Ty.cntL_append : ∀ (ps qs : List Ty), Ty.cntL (ps ++ qs) = Ty.cntL ps + Ty.cntL qs
  | [], qs => by simp [Ty.cntL]
  | p :: ps, qs => by simp [Ty.cntL, Ty.cntL_append ps qs]; omega
theorem Ty.cntL_step {ps : List Ty} {s : Nat} {p : Ty} (hp : ps[s]? = some p) : Ty.cntL (ps.take s) + p.cnt ≤ Ty.cntL ps := by
  have h1 : Ty.cntL (ps.take (s + 1)) = Ty.cntL (ps.take s) + p.cnt := by rw [List.take_add_one, hp, Ty.cntL_append]; simp [Ty.cntL]
  have h2 : Ty.cntL ps = Ty.cntL (ps.take (s + 1)) + Ty.cntL (ps.drop (s + 1)) := by rw [← Ty.cntL_append, List.take_append_drop]
  omega
theorem Ty.cntL_take {ps : List Ty} {s : Nat} {p : Ty} (hp : ps[s]? = some p) : Ty.cntL (ps.take (s + 1)) = Ty.cntL (ps.take s) + p.cnt := by
  rw [List.take_add_one, hp, Ty.cntL_append]; simp [Ty.cntL]
theorem Ty.cntL_len : ∀ ps, ps.length ≤ Ty.cntL ps
  | [] => by simp
  | p :: ps => by
    have := Ty.cntL_len ps
    have h2 : 1 ≤ p.cnt := by rw [Ty.cnt_eq]; omega
    simp [Ty.cntL]; omega
theorem take_map_step {α β : Type} (f : α → β) {ps : List α} {s : Nat} {p : α} (hp : ps[s]? = some p) : (ps.take (s + 1)).map f = (ps.take s).map f ++ [f p] := by
  rw [List.take_add_one, hp]; simp
theorem Ty.cnt_mem {p : Ty} : ∀ {ps : List Ty}, p ∈ ps → p.cnt ≤ Ty.cntL ps
  | q :: ps, h => by
    simp only [Ty.cntL]
    rcases List.mem_cons.1 h with rfl | h
    · omega
    · have := Ty.cnt_mem h; omega
theorem TVar_pure (n : Int) : APure Try.prog 50 [.v (.int .i64 n)] (.agg (Ty.mk 1 n []).cells) := by
  refine APure.mkL (.cons (.v _) .nil) ((Ty.dataAgg _)) ?_
  refine ACalls_intro Try.func50 (by kernel_rfl) rfl (by rw [Try.ntmps50]; simp) (fun hm => ?_)
  simp only [Try.ntmps50, Try.results50, List.length_cons, List.length_nil, Nat.reduceAdd, Nat.reduceSub, List.replicate_succ, List.replicate_zero, List.cons_append, List.nil_append]
  refine AWp_seqK fun K1 hK1 => ?_
  refine AWp_region ?_
  simp only [↓aops, ↓aop, ↓aWant, ↓aVal, bS, bA, AV.flat, AV.cl, AV.one, Value.oneCell', thenQ, blockQ, noGotoQ, ↓reduceIte, Nat.reduceEqDiff, reduceCtorEq, zc32, bL, tyX]
  refine hK1 _ ?_
  try clear hK1 K1
  refine AWp_seqK fun K2 hK2 => ?_
  refine AWp_region ?_
  simp only [↓aops, ↓aop, ↓aWant, ↓aVal, bS, bA, AV.flat, AV.cl, AV.one, Value.oneCell', thenQ, blockQ, noGotoQ, ↓reduceIte, Nat.reduceEqDiff, reduceCtorEq, aBuild, zc32, pc32, aFill, splice, bL, Nat.reduceAdd, Nat.reduceLeDiff, aStore, ti32, getO, putO, tyX]
  refine hK2 _ ?_
  try clear hK2 K2
  refine AWp_ret ?_
  try simp only [thenQ, blockQ, noGotoQ, retQ, aRes, tupOf, bS, bA, aLoad, getO, pack, bL, Nat.reduceAdd, Nat.reduceLeDiff, Nat.reduceEqDiff, ↓reduceIte, ti32, tyX]
  refine Le.agg ?_
  rw [Ty.cells_eq]
  exact ⟨.refl _, .refl _, Le.slNil 3, trivial⟩
theorem change_pure : ∀ (T : Ty) (g : Nat) (caps : List AV) (φ : Int → Int) (hd : DataL caps) (hφ : ∀ n : Int, APure Try.prog g (.v (.int .i64 n) :: caps) (.v (.int .i64 (φ n)))) (hT : T.cnt ≤ 1099511627776), APure Try.prog 92 [.agg T.cells, .clo g caps] (.agg (T.mapV φ).cells) := by
  refine Ty.ind fun T ih => ?_
  intro g caps φ hd hφ hT
  refine APure.mkL (.cons T.dataAgg (.cons (.clo hd) .nil)) ((Ty.dataAgg _)) ?_
  refine ACalls_intro Try.func92 (by kernel_rfl) rfl (by rw [Try.ntmps92]; simp) (fun hm => ?_)
  simp only [Try.ntmps92, Try.results92, List.length_cons, List.length_nil, Nat.reduceAdd, Nat.reduceSub, List.replicate_succ, List.replicate_zero, List.cons_append, List.nil_append]
  have hm1 := hm.wide (t := T) (by simp)
  have hcn := T.cnt_eq
  have hcl := Ty.cntL_len T.ps
  simp only [Ty.cells_eq T, List.cons_append, List.nil_append]
  refine AWp_seqK fun K1 hK1 => ?_
  refine AWp_region ?_
  simp only [↓aops, ↓aop, ↓aWant, ↓aVal, bS, bA, AV.flat, AV.cl, AV.one, Value.oneCell', thenQ, blockQ, noGotoQ, ↓reduceIte, Nat.reduceEqDiff, reduceCtorEq, zc32, bL, tyX]
  refine hK1 _ ?_
  try clear hK1 K1
  refine AWp_joinM [false, true, true, false, true, false, false, false, false, false, false, false, false, false, false, false, false, false, false, false, false, false, false, false, false, false, false, false, false, false, false, false, false] ([]) ([(0, .cells 32 [.v (.int .i64 T.k), .v (.int .i64 (if T.k = 1 then φ T.n else T.n)), .sl 3 (T.ps.map Ty.cells)])]) ?_ ?_
  · skip
    refine AWp_seqK fun K2 hK2 => ?_
    refine AWp_region ?_
    simp only [↓aops, ↓aop, ↓aWant, ↓aVal, bS, bA, AV.flat, AV.cl, AV.one, Value.oneCell', thenQ, blockQ, noGotoQ, ↓reduceIte, Nat.reduceEqDiff, reduceCtorEq, aField, fo32_0, bL, Nat.reduceAdd, aLoad, ti3, getO, pack, Nat.reduceLeDiff, aBin, tyX]
    refine hK2 _ ?_
    try clear hK2 K2
    refine AWp_cond rfl (fun hb10 => ?_) (fun hb10 => ?_)
    · skip
      refine AWp_region ?_
      refine aops_chunk 3 fun C3 hC3 => ?_
      simp only [bL, ↓aops, ↓aop, ↓aWant, ↓aVal, bS, bA, AV.flat, AV.cl, AV.one, Value.oneCell', thenQ, blockQ, noGotoQ, ↓reduceIte, Nat.reduceEqDiff, reduceCtorEq, aField, fo32_1, Nat.reduceAdd, aLoad, ti3, getO, pack, Nat.reduceLeDiff, tyX]
      refine hC3 _ ?_
      try clear hC3 C3
      simp only [bL]
      refine aops_chunk 1 fun C4 hC4 => ?_
      simp only [bL, ↓aops, ↓aop, ↓aWant, ↓aVal, bS, bA, AV.flat, AV.cl, AV.one, Value.oneCell', thenQ, blockQ, noGotoQ, ↓reduceIte, Nat.reduceEqDiff, reduceCtorEq, aCallV, tyX]
      refine APure.call ((hφ T.n)) ?_
      try simp only [bS, bA, thenQ, blockQ, noGotoQ]
      refine hC4 _ ?_
      try clear hC4 C4
      simp only [bL]
      simp only [↓aops, ↓aop, ↓aWant, ↓aVal, bS, bA, AV.flat, AV.cl, AV.one, Value.oneCell', thenQ, blockQ, noGotoQ, ↓reduceIte, Nat.reduceEqDiff, reduceCtorEq, aField, fo32_1, bL, Nat.reduceAdd, aStore, ti3, getO, putO, splice, Nat.reduceLeDiff, tyX]
      try simp only [maskL, setsL, putsO, putO, bA, Nat.reduceEqDiff, ↓reduceIte]
      first | rw [if_pos (by simpa using hb10)] | rw [if_neg (by simpa using hb10)]
      exact Weak.mk (by simp only [LeL, Le.refl, Le.any, and_self]) (fun _ _ h => h) rfl rfl
    · skip
      refine AWp_skip ?_
      try simp only [thenQ, blockQ, noGotoQ]
      try simp only [maskL, setsL, putsO, putO, bA, Nat.reduceEqDiff, ↓reduceIte]
      first | rw [if_pos (by simpa using hb10)] | rw [if_neg (by simpa using hb10)]
      exact Weak.mk (by simp only [LeL, Le.refl, Le.any, and_self]) (fun _ _ h => h) rfl rfl
  simp only [maskL, setsL, putsO, putO, bA, Nat.reduceEqDiff, ↓reduceIte]
  refine AWp_seqK fun K5 hK5 => ?_
  refine AWp_region ?_
  simp only [↓aops, ↓aop, ↓aWant, ↓aVal, bS, bA, AV.flat, AV.cl, AV.one, Value.oneCell', thenQ, blockQ, noGotoQ, ↓reduceIte, Nat.reduceEqDiff, reduceCtorEq, tyX]
  refine hK5 _ ?_
  try clear hK5 K5
  refine AWp_seqK fun K6 hK6 => ?_
  refine AWp_seqK fun K7 hK7 => ?_
  refine AWp_region ?_
  simp only [↓aops, ↓aop, ↓aWant, ↓aVal, bS, bA, AV.flat, AV.cl, AV.one, Value.oneCell', thenQ, blockQ, noGotoQ, ↓reduceIte, Nat.reduceEqDiff, reduceCtorEq, aField, fo32_2, bL, Nat.reduceAdd, aLoad, ti22, getO, pack, Nat.reduceLeDiff, aLenX, aLen, ln22, List.length_map, tyX]
  refine hK7 _ ?_
  try clear hK7 K7
  refine AWp_block ?_
  refine AWp_weak (Weak.tokSlot 5 32 3 rfl) ?_
  simp only [List.set_cons_zero, List.set_cons_succ]
  refine AWp_loopM (σ := Nat) [false, true, true, false, true, true, false, false, false, false, false, false, false, false, false, false, false, true, true, true, false, false, false, false, false, false, false, false, false, false, false, false, false] (fun s => s ≤ T.ps.length) (fun s => [(5, .osl 2 3 (((T.ps.take s).map (Ty.mapV φ)).map Ty.cells)), (19, .v (.int .i64 (s : Int)))]) (fun s => [(2, .tok 32 3 s)]) (fun s => T.ps.length - s) 0 (by omega) ?_ (fun s hs => ?_)
  · skip
    simp only [maskL, setsL, putsO, putO, bA, Nat.reduceEqDiff, ↓reduceIte, bL]
    exact Weak.mk (by simp only [LeL, Le.refl, Le.any, Le.slNil, and_self, Int.natCast_add, Int.cast_ofNat_Int, Int.natCast_one]) (fun _ _ h => h) rfl rfl
  simp only [maskL, setsL, putsO, putO, bA, Nat.reduceEqDiff, ↓reduceIte]
  refine AWp_seqK fun K8 hK8 => ?_
  refine AWp_region ?_
  simp only [↓aops, ↓aop, ↓aWant, ↓aVal, bS, bA, AV.flat, AV.cl, AV.one, Value.oneCell', thenQ, blockQ, noGotoQ, ↓reduceIte, Nat.reduceEqDiff, reduceCtorEq, aBin, tyX]
  refine hK8 _ ?_
  try clear hK8 K8
  refine AWp_seqK fun K9 hK9 => ?_
  refine AWp_cond rfl (fun hb20 => ?_) (fun hb20 => ?_)
  · skip
    have hk : s < T.ps.length := by simpa using hb20
    obtain ⟨p, hp⟩ : ∃ p, T.ps[s]? = some p := ⟨_, List.getElem?_eq_getElem hk⟩
    have hpm := Ty.cnt_mem (List.mem_of_getElem? hp)
    have hw : IntKind.i64.wrap ((s : Int) + 1) = (s : Int) + 1 := wrap_in (by omega) (by omega)
    have hln : (((T.ps.take s).map (Ty.mapV φ)).map Ty.cells).length = s := by simp; omega
    have hb1 : (s + 1) * 40 ≤ 140737488355328 := by omega
    have hb2 : s + 1 ≤ maxLen := by simp only [maxLen]; omega
    refine AWp_skip ?_
    try simp only [thenQ, blockQ, noGotoQ]
    refine hK9 _ ?_
    try clear hK9 K9
    refine AWp_seqK fun K10 hK10 => ?_
    refine AWp_block ?_
    refine AWp_seqK fun K11 hK11 => ?_
    refine AWp_region ?_
    simp only [↓aops, ↓aop, ↓aWant, ↓aVal, bS, bA, AV.flat, AV.cl, AV.one, Value.oneCell', thenQ, blockQ, noGotoQ, ↓reduceIte, Nat.reduceEqDiff, reduceCtorEq, getO, aIndexA, es22, Int.natCast_nonneg, Int.ofNat_lt, Int.toNat_natCast, List.length_map, Int.le_refl, Int.toNat_zero, Int.toNat_one, Int.reduceLE, aLoad, ti32, pack, bL, Nat.reduceAdd, Nat.reduceLeDiff, zc32, aStore, putO, splice, tyX, hk, getD_map_cells hp, Int.natCast_add, Int.natCast_one, hw, hln, hb1, hb2, List.map_append, take_map_step (Ty.mapV φ) hp]
    refine hK11 _ ?_
    try clear hK11 K11
    refine AWp_region ?_
    refine aops_chunk 3 fun C12 hC12 => ?_
    simp only [bL, ↓aops, ↓aop, ↓aWant, ↓aVal, bS, bA, AV.flat, AV.cl, AV.one, Value.oneCell', thenQ, blockQ, noGotoQ, ↓reduceIte, Nat.reduceEqDiff, reduceCtorEq, aLoad, ti32, getO, pack, Nat.reduceAdd, Nat.reduceLeDiff, tyX, hk, getD_map_cells hp, Int.natCast_add, Int.natCast_one, hw, hln, hb1, hb2, List.map_append, take_map_step (Ty.mapV φ) hp]
    refine hC12 _ ?_
    try clear hC12 C12
    simp only [bL]
    refine aops_chunk 1 fun C13 hC13 => ?_
    simp only [bL, ↓aops, ↓aop, ↓aWant, ↓aVal, bS, bA, AV.flat, AV.cl, AV.one, Value.oneCell', thenQ, blockQ, noGotoQ, ↓reduceIte, Nat.reduceEqDiff, reduceCtorEq, aCallV, tyX, hk, getD_map_cells hp, Int.natCast_add, Int.natCast_one, hw, hln, hb1, hb2, List.map_append, take_map_step (Ty.mapV φ) hp]
    refine APure.call (ih p (List.mem_of_getElem? hp) g caps φ hd hφ (by omega)) ?_
    try simp only [bS, bA, thenQ, blockQ, noGotoQ]
    refine hC13 _ ?_
    try clear hC13 C13
    simp only [bL]
    simp only [↓aops, ↓aop, ↓aWant, ↓aVal, bS, bA, AV.flat, AV.cl, AV.one, Value.oneCell', thenQ, blockQ, noGotoQ, ↓reduceIte, Nat.reduceEqDiff, reduceCtorEq, ↓bs1_1, ↓bs1_2, ↓bs1_3, ↓bs1_4, ↓bs1_5, ↓bs1_6, ↓bs1_7, ↓bs1_8, ↓bs1_9, ↓bs1_10, ↓bs1_11, ↓bs1_12, aBuildSl, ei22, ia32, bL, List.range_succ, List.range_zero, List.forall_mem_cons, List.not_mem_nil, false_imp_iff, implies_true, Nat.reduceAdd, Nat.reduceLeDiff, forall_eq, List.mem_singleton, aAppend, slIn, slAt, slOf, List.length_map, getO, putO, tyX, hk, getD_map_cells hp, Int.natCast_add, Int.natCast_one, hw, hln, hb1, hb2, List.map_append, take_map_step (Ty.mapV φ) hp]
    refine hK10 _ ?_
    try clear hK10 K10
    refine AWp_region ?_
    simp only [↓aops, ↓aop, ↓aWant, ↓aVal, bS, bA, AV.flat, AV.cl, AV.one, Value.oneCell', thenQ, blockQ, noGotoQ, ↓reduceIte, Nat.reduceEqDiff, reduceCtorEq, aBin, tyX, hk, getD_map_cells hp, Int.natCast_add, Int.natCast_one, hw, hln, hb1, hb2, List.map_append, bL, take_map_step (Ty.mapV φ) hp]
    refine ⟨(s + 1), (by omega), by omega, ?_⟩
    simp only [maskL, setsL, putsO, putO, bA, Nat.reduceEqDiff, ↓reduceIte, hk, getD_map_cells hp, Int.natCast_add, Int.natCast_one, hw, hln, hb1, hb2, List.map_append, bL, take_map_step (Ty.mapV φ) hp]
    first | (refine Weak.drops 1 3 rfl rfl (by simp only; omega) (by simp only; omega) ?_ ?_ ?_) | (refine Weak.drops 0 3 rfl rfl (by simp only; omega) (by simp only; omega) ?_ ?_ ?_)
    · simp only [LeL, Le.refl, Le.any, and_self, Int.natCast_add, Int.cast_ofNat_Int, Int.natCast_one]
    · simp only [UndL, UndOs, Ob.Und, and_true, true_and, and_self, Und.v, Und.any, Und.ptr, Und.map, Nat.reduceLT, Nat.zero_lt_succ, Und.tys, Und.tyAgg, Und.oslTys, Und.oslTys1, Und.clo0, Und.ty, Und.data (n := 3) (Data.clo (f := g) hd)]
    · simp only [UndL, UndOs, Ob.Und, and_true, true_and, and_self, Und.v, Und.any, Und.ptr, Und.map, Nat.reduceLT, Nat.zero_lt_succ, Und.tys, Und.tyAgg, Und.oslTys, Und.oslTys1, Und.clo0, Und.ty, Und.data (n := 3) (Data.clo (f := g) hd)]
  · skip
    have hk : s = T.ps.length := by simp at hb20; omega
    refine AWp_exit ?_
    simp only [thenQ, blockQ, noGotoQ, bA, Nat.reduceEqDiff, ↓reduceIte]
    refine hK6 _ ?_
    try clear hK6 K6
    refine AWp_seqK fun K14 hK14 => ?_
    refine AWp_region ?_
    simp only [↓aops, ↓aop, ↓aWant, ↓aVal, bS, bA, AV.flat, AV.cl, AV.one, Value.oneCell', thenQ, blockQ, noGotoQ, ↓reduceIte, Nat.reduceEqDiff, reduceCtorEq, aField, fo32_2, bL, Nat.reduceAdd, aStore, ti22, getO, putO, splice, Nat.reduceLeDiff, tyX]
    refine hK14 _ ?_
    try clear hK14 K14
    refine AWp_seqK fun K15 hK15 => ?_
    refine AWp_region ?_
    simp only [↓aops, ↓aop, ↓aWant, ↓aVal, bS, bA, AV.flat, AV.cl, AV.one, Value.oneCell', thenQ, blockQ, noGotoQ, ↓reduceIte, Nat.reduceEqDiff, reduceCtorEq, aLoad, ti32, getO, pack, bL, Nat.reduceAdd, Nat.reduceLeDiff, aStore, putO, splice, tyX]
    refine hK15 _ ?_
    try clear hK15 K15
    refine AWp_ret ?_
    try simp only [thenQ, blockQ, noGotoQ, retQ, aRes, tupOf, bS, bA, aLoad, getO, pack, bL, Nat.reduceAdd, Nat.reduceLeDiff, Nat.reduceEqDiff, ↓reduceIte, ti32, tyX]
    refine Le.agg ?_
    rw [Ty.mapV_eq, Ty.cells_eq, hk, List.take_length]
    exact ⟨.refl _, .refl _, Le.oslL, trivial⟩
theorem Copy1_pure (n : Int) : APure Try.prog 93 [.v (.int .i64 n)] (.v (.int .i64 n)) := by
  refine APure.mkL (.cons (.v _) .nil) (.v _) ?_
  refine ACalls_intro Try.func93 (by kernel_rfl) rfl (by rw [Try.ntmps93]; simp) (fun hm => ?_)
  simp only [Try.ntmps93, Try.results93, List.length_cons, List.length_nil, Nat.reduceAdd, Nat.reduceSub, List.replicate_succ, List.replicate_zero, List.cons_append, List.nil_append]
  refine AWp_seqK fun K1 hK1 => ?_
  refine AWp_region ?_
  simp only [↓aops, ↓aop, ↓aWant, ↓aVal, bS, bA, AV.flat, AV.cl, AV.one, Value.oneCell', thenQ, blockQ, noGotoQ, ↓reduceIte, Nat.reduceEqDiff, reduceCtorEq, tyX]
  refine hK1 _ ?_
  try clear hK1 K1
  refine AWp_seqK fun K2 hK2 => ?_
  refine AWp_region ?_
  simp only [↓aops, ↓aop, ↓aWant, ↓aVal, bS, bA, AV.flat, AV.cl, AV.one, Value.oneCell', thenQ, blockQ, noGotoQ, ↓reduceIte, Nat.reduceEqDiff, reduceCtorEq, tyX]
  refine hK2 _ ?_
  try clear hK2 K2
  refine AWp_ret ?_
  try simp only [thenQ, blockQ, noGotoQ, retQ, aRes, tupOf, bS, bA]
  exact Le.refl _
theorem Copy_pure (T : Ty) (hT : T.cnt ≤ 1099511627776) : APure Try.prog 64 [.agg T.cells] (.agg T.cells) := by
  refine APure.mkL (.cons T.dataAgg .nil) (T.dataAgg) ?_
  refine ACalls_intro Try.func64 (by kernel_rfl) rfl (by rw [Try.ntmps64]; simp) (fun hm => ?_)
  simp only [Try.ntmps64, Try.results64, List.length_cons, List.length_nil, Nat.reduceAdd, Nat.reduceSub, List.replicate_succ, List.replicate_zero, List.cons_append, List.nil_append]
  simp only [Ty.cells_eq T, List.cons_append, List.nil_append]
  refine AWp_seqK fun K1 hK1 => ?_
  refine AWp_region ?_
  simp only [↓aops, ↓aop, ↓aWant, ↓aVal, bS, bA, AV.flat, AV.cl, AV.one, Value.oneCell', thenQ, blockQ, noGotoQ, ↓reduceIte, Nat.reduceEqDiff, reduceCtorEq, zc32, bL]
  refine hK1 _ ?_
  try clear hK1 K1
  refine AWp_seqK fun K2 hK2 => ?_
  refine AWp_region ?_
  refine aops_chunk 1 fun C3 hC3 => ?_
  simp only [bL, ↓aops, ↓aop, ↓aWant, ↓aVal, bS, bA, AV.flat, AV.cl, AV.one, Value.oneCell', thenQ, blockQ, noGotoQ, ↓reduceIte, Nat.reduceEqDiff, reduceCtorEq, aLoad, ti32, getO, pack, Nat.reduceAdd, Nat.reduceLeDiff]
  refine hC3 _ ?_
  try clear hC3 C3
  simp only [bL]
  refine aops_chunk 1 fun C4 hC4 => ?_
  simp only [bL, ↓aops, ↓aop, ↓aWant, ↓aVal, bS, bA, AV.flat, AV.cl, AV.one, Value.oneCell', thenQ, blockQ, noGotoQ, ↓reduceIte, Nat.reduceEqDiff, reduceCtorEq, aCallV]
  refine APure.call (by have h9 := change_pure T 93 [] (fun n => n) (fun _ h => by cases h) (fun n => Copy1_pure n) hT; rw [Ty.mapV_id, Ty.cells_eq T] at h9; exact h9) ?_
  try simp only [bS, bA, thenQ, blockQ, noGotoQ]
  refine hC4 _ ?_
  try clear hC4 C4
  simp only [bL]
  simp only [↓aops, ↓aop, ↓aWant, ↓aVal, bS, bA, AV.flat, AV.cl, AV.one, Value.oneCell', thenQ, blockQ, noGotoQ, ↓reduceIte, Nat.reduceEqDiff, reduceCtorEq, aStore, ti32, getO, putO, splice, bL, Nat.reduceAdd, Nat.reduceLeDiff]
  refine hK2 _ ?_
  try clear hK2 K2
  refine AWp_ret ?_
  try simp only [thenQ, blockQ, noGotoQ, retQ, aRes, tupOf, bS, bA, aLoad, getO, pack, bL, Nat.reduceAdd, Nat.reduceLeDiff, Nat.reduceEqDiff, ↓reduceIte, ti32]
  exact Le.refl _
/-- the type of functions from the first one on -/
def arrowL : List Ty → Ty
  | [] => .mk 0 0 []
  | [t] => t
  | t :: ts => .mk 4 0 [t, arrowL ts]
theorem arrowL_nil {ps : List Ty} (h : ps.length = 0) : arrowL ps = .mk 0 0 [] := by rw [List.length_eq_zero_iff.1 h]; rfl
theorem arrowL_one {ps : List Ty} {p : Ty} (h : ps.length = 1) (hp : ps[0]? = some p) : arrowL ps = p := by
  match ps, h, hp with
  | [t], _, hp => simp at hp; rw [← hp]; rfl
theorem arrowL_more {ps : List Ty} {p : Ty} (h : 2 ≤ ps.length) (hp : ps[0]? = some p) : arrowL ps = .mk 4 0 [p, arrowL (ps.drop 1)] := by
  match ps, h, hp with
  | t :: u :: ts, _, hp => simp at hp; rw [← hp]; rfl
theorem Arrow_pure : ∀ (n : Nat) (ps : List Ty), ps.length = n → Ty.cntL ps ≤ 1099511627776 → APure Try.prog 49 [.sl 3 (ps.map Ty.cells)] (.agg (arrowL ps).cells) := by
  intro n
  induction n with
  | zero =>
    intro ps hn hc
    refine APure.mkL (.cons (Ty.dataSl ps) .nil) (Ty.dataAgg _) ?_
    have h0 : ((ps.length : Int) == 0) = true := by simp; exact List.length_eq_zero_iff.1 hn
    refine ACalls_intro Try.func49 (by kernel_rfl) rfl (by rw [Try.ntmps49]; simp) (fun hm => ?_)
    simp only [Try.ntmps49, Try.results49, List.length_cons, List.length_nil, Nat.reduceAdd, Nat.reduceSub, List.replicate_succ, List.replicate_zero, List.cons_append, List.nil_append]
    refine AWp_seqK fun K1 hK1 => ?_
    refine AWp_region ?_
    simp only [↓aops, ↓aop, ↓aWant, ↓aVal, bS, bA, AV.flat, AV.cl, AV.one, Value.oneCell', thenQ, blockQ, noGotoQ, ↓reduceIte, Nat.reduceEqDiff, reduceCtorEq, zc32, bL, h0]
    refine hK1 _ ?_
    try clear hK1 K1
    refine AWp_seqK fun K2 hK2 => ?_
    refine AWp_seqK fun K3 hK3 => ?_
    refine AWp_region ?_
    simp only [↓aops, ↓aop, ↓aWant, ↓aVal, bS, bA, AV.flat, AV.cl, AV.one, Value.oneCell', thenQ, blockQ, noGotoQ, ↓reduceIte, Nat.reduceEqDiff, reduceCtorEq, getO, aLenX, aLen, ln22, List.length_map, h0]
    refine hK3 _ ?_
    try clear hK3 K3
    refine AWp_block ?_
    refine AWp_seqK fun K4 hK4 => ?_
    refine AWp_region ?_
    simp only [↓aops, ↓aop, ↓aWant, ↓aVal, bS, bA, AV.flat, AV.cl, AV.one, Value.oneCell', thenQ, blockQ, noGotoQ, ↓reduceIte, Nat.reduceEqDiff, reduceCtorEq, aBin, h0]
    refine hK4 _ ?_
    try clear hK4 K4
    refine AWp_cond rfl (fun hb5 => ?_) (fun hb5 => ?_)
    · skip
      refine AWp_seqK fun K5 hK5 => ?_
      refine AWp_region ?_
      simp only [↓aops, ↓aop, ↓aWant, ↓aVal, bS, bA, AV.flat, AV.cl, AV.one, Value.oneCell', thenQ, blockQ, noGotoQ, ↓reduceIte, Nat.reduceEqDiff, reduceCtorEq, aBuild, zc32, pc32, aFill, splice, bL, Nat.reduceAdd, Nat.reduceLeDiff, aStore, ti32, getO, putO, h0]
      refine hK5 _ ?_
      try clear hK5 K5
      refine AWp_ret ?_
      try simp only [thenQ, blockQ, noGotoQ, retQ, aRes, tupOf, bS, bA, aLoad, getO, pack, bL, Nat.reduceAdd, Nat.reduceLeDiff, Nat.reduceEqDiff, ↓reduceIte, ti32, h0]
      refine Le.agg ?_
      rw [arrowL_nil hn, Ty.cells_eq]
      exact ⟨.refl _, .refl _, Le.slNil 3, trivial⟩
    · skip
      cases hb5
  | succ n ih =>
    intro ps hn hc
    refine APure.mkL (.cons (Ty.dataSl ps) .nil) (Ty.dataAgg _) ?_
    obtain ⟨p, hp⟩ : ∃ p, ps[0]? = some p := ⟨_, List.getElem?_eq_getElem (by omega)⟩
    have hpc := Ty.cnt_mem (List.mem_of_getElem? hp)
    have hlt : (0 : Int) < (ps.length : Int) := by omega
    have hle : (1 : Int) ≤ (ps.length : Int) := by omega
    have hdr : (ps.map Ty.cells).drop 1 = (ps.drop 1).map Ty.cells := by rw [List.map_drop]
    have hdc : Ty.cntL (ps.drop 1) ≤ Ty.cntL ps := by have h9 := Ty.cntL_append (ps.take 1) (ps.drop 1); rw [List.take_append_drop] at h9; omega
    refine ACalls_intro Try.func49 (by kernel_rfl) rfl (by rw [Try.ntmps49]; simp) (fun hm => ?_)
    simp only [Try.ntmps49, Try.results49, List.length_cons, List.length_nil, Nat.reduceAdd, Nat.reduceSub, List.replicate_succ, List.replicate_zero, List.cons_append, List.nil_append]
    refine AWp_seqK fun K1 hK1 => ?_
    refine AWp_region ?_
    simp only [↓aops, ↓aop, ↓aWant, ↓aVal, bS, bA, AV.flat, AV.cl, AV.one, Value.oneCell', thenQ, blockQ, noGotoQ, ↓reduceIte, Nat.reduceEqDiff, reduceCtorEq, zc32, bL, tyX, hlt, hle, hdr, getD_map_cells hp]
    refine hK1 _ ?_
    try clear hK1 K1
    refine AWp_seqK fun K2 hK2 => ?_
    refine AWp_seqK fun K3 hK3 => ?_
    refine AWp_region ?_
    simp only [↓aops, ↓aop, ↓aWant, ↓aVal, bS, bA, AV.flat, AV.cl, AV.one, Value.oneCell', thenQ, blockQ, noGotoQ, ↓reduceIte, Nat.reduceEqDiff, reduceCtorEq, getO, aLenX, aLen, ln22, List.length_map, tyX, hlt, hle, hdr, getD_map_cells hp, bL]
    refine hK3 _ ?_
    try clear hK3 K3
    refine AWp_block ?_
    refine AWp_seqK fun K4 hK4 => ?_
    refine AWp_region ?_
    simp only [↓aops, ↓aop, ↓aWant, ↓aVal, bS, bA, AV.flat, AV.cl, AV.one, Value.oneCell', thenQ, blockQ, noGotoQ, ↓reduceIte, Nat.reduceEqDiff, reduceCtorEq, aBin, tyX, hlt, hle, hdr, getD_map_cells hp, bL]
    refine hK4 _ ?_
    try clear hK4 K4
    refine AWp_cond rfl (fun hb5 => ?_) (fun hb5 => ?_)
    · skip
      exact absurd hb5 (by simp only [AV.v.injEq, Value.bool.injEq, beq_iff_eq]; omega)
    · skip
      refine AWp_seqK fun K5 hK5 => ?_
      refine AWp_region ?_
      simp only [↓aops, ↓aop, ↓aWant, ↓aVal, bS, bA, AV.flat, AV.cl, AV.one, Value.oneCell', thenQ, blockQ, noGotoQ, ↓reduceIte, Nat.reduceEqDiff, reduceCtorEq, aBin, tyX, hlt, hle, hdr, getD_map_cells hp, bL]
      refine hK5 _ ?_
      try clear hK5 K5
      refine AWp_cond rfl (fun hb8 => ?_) (fun hb8 => ?_)
      · skip
        have h1 : ps.length = 1 := by simp at hb8; omega
        refine AWp_seqK fun K6 hK6 => ?_
        refine AWp_region ?_
        refine aops_chunk 3 fun C7 hC7 => ?_
        simp only [bL, ↓aops, ↓aop, ↓aWant, ↓aVal, bS, bA, AV.flat, AV.cl, AV.one, Value.oneCell', thenQ, blockQ, noGotoQ, ↓reduceIte, Nat.reduceEqDiff, reduceCtorEq, getO, aIndexA, es22, Int.natCast_nonneg, Int.ofNat_lt, Int.toNat_natCast, List.length_map, Int.le_refl, Int.toNat_zero, Int.toNat_one, Int.reduceLE, aLoad, ti32, pack, Nat.reduceAdd, Nat.reduceLeDiff, tyX, hlt, hle, hdr, getD_map_cells hp]
        refine hC7 _ ?_
        try clear hC7 C7
        simp only [bL]
        refine aops_chunk 1 fun C8 hC8 => ?_
        simp only [bL, ↓aops, ↓aop, ↓aWant, ↓aVal, bS, bA, AV.flat, AV.cl, AV.one, Value.oneCell', thenQ, blockQ, noGotoQ, ↓reduceIte, Nat.reduceEqDiff, reduceCtorEq, aCallV, tyX, hlt, hle, hdr, getD_map_cells hp]
        refine APure.call (Copy_pure p (by omega)) ?_
        try simp only [bS, bA, thenQ, blockQ, noGotoQ]
        refine hC8 _ ?_
        try clear hC8 C8
        simp only [bL]
        simp only [↓aops, ↓aop, ↓aWant, ↓aVal, bS, bA, AV.flat, AV.cl, AV.one, Value.oneCell', thenQ, blockQ, noGotoQ, ↓reduceIte, Nat.reduceEqDiff, reduceCtorEq, aStore, ti32, getO, putO, splice, bL, Nat.reduceAdd, Nat.reduceLeDiff, tyX, hlt, hle, hdr, getD_map_cells hp]
        refine hK6 _ ?_
        try clear hK6 K6
        refine AWp_ret ?_
        try simp only [thenQ, blockQ, noGotoQ, retQ, aRes, tupOf, bS, bA, aLoad, getO, pack, bL, Nat.reduceAdd, Nat.reduceLeDiff, Nat.reduceEqDiff, ↓reduceIte, ti32, tyX, hlt, hle, hdr, getD_map_cells hp]
        refine Le.agg ?_
        first | (rw [arrowL_one h1 hp]; exact LeL.refl _) | (rw [arrowL_more h1 hp, Ty.cells]; exact ⟨.refl _, .refl _, Le.of_eq (by simp [Ty.cellsL]), trivial⟩)
      · skip
        have h1 : 2 ≤ ps.length := by simp at hb8; omega
        refine AWp_skip ?_
        try simp only [thenQ, blockQ, noGotoQ]
        refine hK2 _ ?_
        try clear hK2 K2
        refine AWp_seqK fun K9 hK9 => ?_
        refine AWp_drawK 9 mixed (by kernel_rfl) fun K10 hK10 => ?_
        simp only [bL]
        refine dRun_chunk 3 fun C11 hC11 => ?_
        simp only [bL, ↓dRun, ↓dOp, ↓aops, ↓aop, ↓aWant, ↓aVal, bS, bA, AV.flat, AV.cl, AV.one, Value.oneCell', thenQ, blockQ, noGotoQ, ↓reduceIte, Nat.reduceEqDiff, reduceCtorEq, getO, aIndexA, es22, Int.natCast_nonneg, Int.ofNat_lt, Int.toNat_natCast, List.length_map, Int.le_refl, Int.toNat_zero, Int.toNat_one, Int.reduceLE, aLoad, ti32, pack, Nat.reduceAdd, Nat.reduceLeDiff, tyX, hlt, hle, hdr, getD_map_cells hp]
        refine hC11 _ ?_
        try clear hC11 C11
        simp only [bL]
        refine dRun_chunk 1 fun C12 hC12 => ?_
        simp only [bL, ↓dRun, ↓dOp, ↓aops, ↓aop, ↓aWant, ↓aVal, bS, bA, AV.flat, AV.cl, AV.one, Value.oneCell', thenQ, blockQ, noGotoQ, ↓reduceIte, Nat.reduceEqDiff, reduceCtorEq, aCallV, tyX, hlt, hle, hdr, getD_map_cells hp]
        refine ⟨_, Copy_pure p (by omega), ?_⟩
        try simp only [bS, bA, thenQ, blockQ, noGotoQ]
        refine hC12 _ ?_
        try clear hC12 C12
        simp only [bL]
        refine dRun_chunk 2 fun C13 hC13 => ?_
        simp only [bL, ↓dRun, ↓dOp, ↓aops, ↓aop, ↓aWant, ↓aVal, bS, bA, AV.flat, AV.cl, AV.one, Value.oneCell', thenQ, blockQ, noGotoQ, ↓reduceIte, Nat.reduceEqDiff, reduceCtorEq, aMore, aSlice, aBnd, es22, Option.map_some, Option.map_none, Int.toNat_natCast, Int.toNat_zero, Int.toNat_one, Int.reduceLE, Int.natCast_nonneg, List.length_map, List.take_length, Int.le_refl, tyX, hlt, hle, hdr, getD_map_cells hp]
        refine hC13 _ ?_
        try clear hC13 C13
        simp only [bL]
        refine dRun_chunk 1 fun C14 hC14 => ?_
        simp only [bL, ↓dRun, ↓dOp, ↓aops, ↓aop, ↓aWant, ↓aVal, bS, bA, AV.flat, AV.cl, AV.one, Value.oneCell', thenQ, blockQ, noGotoQ, ↓reduceIte, Nat.reduceEqDiff, reduceCtorEq, aCallV, tyX, hlt, hle, hdr, getD_map_cells hp]
        refine ⟨_, ih (ps.drop 1) (by simp; omega) (by omega), ?_⟩
        try simp only [bS, bA, thenQ, blockQ, noGotoQ]
        refine hC14 _ ?_
        try clear hC14 C14
        simp only [bL]
        simp only [↓dRun, ↓dOp, bL, ↓aops, ↓aop, ↓aWant, ↓aVal, bS, bA, AV.flat, AV.cl, AV.one, Value.oneCell', thenQ, blockQ, noGotoQ, ↓reduceIte, Nat.reduceEqDiff, reduceCtorEq, ↓bs2_1, ↓bs2_2, ↓bs2_3, ↓bs2_4, ↓bs2_5, ↓bs2_6, ↓bs2_7, ↓bs2_8, ↓bs2_9, ↓bs2_10, ↓bs2_11, ↓bs2_12, aBuildSl, ei22, ia32, List.range_succ, List.range_zero, List.forall_mem_cons, List.not_mem_nil, false_imp_iff, implies_true, Nat.reduceAdd, Nat.reduceLeDiff, forall_eq, List.mem_singleton, aBuild, zc32, pc32, aFill, splice, tyX, hlt, hle, hdr, getD_map_cells hp]
        refine hK10 _ ?_
        try clear hK10 K10
        simp only [bL]
        simp only [↓aops, ↓aop, ↓aWant, ↓aVal, bS, bA, AV.flat, AV.cl, AV.one, Value.oneCell', thenQ, blockQ, noGotoQ, ↓reduceIte, Nat.reduceEqDiff, reduceCtorEq, aStore, ti32, getO, putO, splice, bL, Nat.reduceAdd, Nat.reduceLeDiff, tyX, hlt, hle, hdr, getD_map_cells hp]
        refine hK9 _ ?_
        try clear hK9 K9
        refine AWp_ret ?_
        try simp only [thenQ, blockQ, noGotoQ, retQ, aRes, tupOf, bS, bA, aLoad, getO, pack, bL, Nat.reduceAdd, Nat.reduceLeDiff, Nat.reduceEqDiff, ↓reduceIte, ti32, tyX, hlt, hle, hdr, getD_map_cells hp]
        refine Le.agg ?_
        first | (rw [arrowL_one h1 hp]; exact LeL.refl _) | (rw [arrowL_more h1 hp, Ty.cells]; exact ⟨.refl _, .refl _, Le.of_eq (by simp [Ty.cellsL]), trivial⟩)
end Go.Proofs.Ytohdoloalolpfaa
