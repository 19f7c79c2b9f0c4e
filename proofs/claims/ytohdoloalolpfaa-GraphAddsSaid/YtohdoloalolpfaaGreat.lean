import Derived.Test.YtohdoloalolpfaaRef11b
namespace Go.Proofs.Ytohdoloalolpfaa
open Go Go.RowKit
set_option maxRecDepth 100000
set_option maxHeartbeats 1000000
set_option linter.unusedSimpArgs false
set_option linter.unusedVariables false
attribute [local irreducible] aops dRun
theorem Ty.roomL_cnt : ∀ (ps : List Ty) (n : Int) (d : Nat), (∀ p ∈ ps, ∀ (n : Int) (d : Nat), 0 ≤ n → 0 ≤ p.room n d → p.room n d = n - p.cnt) → 0 ≤ Ty.roomL ps n d → Ty.roomL ps n d = n - Ty.cntL ps
  | [], n, d, _, _ => by simp [Ty.roomL, Ty.cntL]
  | p :: ps, n, d, hp, h => by
    simp only [Ty.roomL] at h ⊢
    by_cases hn : n < 0
    · rw [if_pos hn] at h; omega
    · rw [if_neg hn] at h ⊢
      have h2 : 0 ≤ p.room n d := by
        rcases Int.lt_or_le (p.room n d) 0 with h3 | h3
        · rw [Ty.roomL_neg ps h3] at h; omega
        · exact h3
      have h3 := hp p (by simp) n d (by omega) h2
      have h4 := Ty.roomL_cnt ps (p.room n d) d (fun q hq => hp q (by simp [hq])) h
      simp only [Ty.cntL]; omega
theorem Ty.room_cnt : ∀ (t : Ty) (n : Int) (d : Nat), 0 ≤ n → 0 ≤ t.room n d → t.room n d = n - t.cnt := by
  refine Ty.ind fun t ih => ?_
  intro n d hn h
  cases d with
  | zero => rw [Ty.room_zero] at h; omega
  | succ d =>
    rw [Ty.room_succ] at h ⊢
    have := Ty.roomL_cnt t.ps (n - 1) d ih h
    rw [Ty.cnt_eq]; omega
theorem Ty.sizeWL_cnt : ∀ (ps : List Ty) (a : Int), 0 ≤ a → a + Ty.cntL ps ≤ 1099511627776 → (∀ p ∈ ps, p.cnt ≤ 1099511627776 → p.sizeW = p.cnt) → Ty.sizeWL a ps = a + Ty.cntL ps
  | [], a, _, _, _ => by simp [Ty.sizeWL, Ty.cntL]
  | p :: ps, a, ha, hb, hp => by
    simp only [Ty.sizeWL, Ty.cntL] at hb ⊢
    rw [hp p (by simp) (by omega), addW, wrap_in (by omega) (by omega), Ty.sizeWL_cnt ps _ (by omega) (by omega) (fun q hq => hp q (by simp [hq]))]
    omega
theorem Ty.sizeW_cnt : ∀ t : Ty, t.cnt ≤ 1099511627776 → t.sizeW = t.cnt := by
  refine Ty.ind fun t ih => ?_
  intro h
  have h1 := t.cnt_eq
  rw [Ty.sizeW_eq, Ty.sizeWL_cnt t.ps 1 (by omega) (by omega) ih, h1]
  omega
/-- more than is asked of one type -/
def Ty.great (t : Ty) : Bool := decide (t.room 300 40 < 0)
theorem Ty.great_cnt {t : Ty} (h : t.great = false) : t.cnt ≤ 300 := by
  simp only [Ty.great, decide_eq_false_iff_not] at h
  have := Ty.room_cnt t 300 40 (by omega) (by omega)
  omega
/-- more than is asked of a list -/
def greatL (ps : List Ty) : Bool := (ps.take 40).any Ty.great || decide (30 < ps.length) || decide (400 < Ty.cntL (ps.take 40))
theorem greatL_true {ps : List Ty} {s : Nat} {p : Ty} (hp : ps[s]? = some p) (hs : s < 40) (h : p.great = true) : greatL ps = true := by
  have h1 : (ps.take 40).any Ty.great = true := all_not_of (i := s) (p := p) (by rw [List.getElem?_take, if_pos hs]; exact hp) h
  simp only [greatL, h1, Bool.true_or]
theorem greatL_end {ps : List Ty} {s : Nat} (hs : ¬ (s < ps.length ∧ s < 40)) (h1 : s ≤ ps.length) (h2 : s ≤ 40) (h : ∀ (i : Nat) (p : Ty), i < s → ps[i]? = some p → p.great = false) :
    greatL ps = (decide (30 < ps.length) || decide (400 < Ty.cntL (ps.take s))) ∧ ps.take 40 = ps.take s := by
  have e : ps.take 40 = ps.take s := by
    rcases Nat.lt_or_ge s 40 with h3 | h3
    · have h4 : s = ps.length := by omega
      subst h4
      rw [List.take_length, List.take_of_length_le (by omega)]
    · rw [show s = 40 by omega]
  have h0 : (ps.take s).any Ty.great = false := any_false_of fun i p hi hp => by
    rw [List.getElem?_take] at hp
    split at hp
    · exact h i p (by assumption) hp
    · cases hp
  exact ⟨by simp only [greatL, e, h0, Bool.false_or], e⟩
theorem greatL_spec {ps : List Ty} (h : greatL ps = false) : ps.length ≤ 30 ∧ Ty.cntL ps ≤ 400 ∧ ∀ p ∈ ps, p.great = false := by
  simp only [greatL, Bool.or_eq_false_iff, decide_eq_false_iff_not] at h
  obtain ⟨⟨h1, h2⟩, h3⟩ := h
  rw [List.take_of_length_le (by omega)] at h1 h3
  exact ⟨by omega, by omega, fun p hp => by
    cases hg : p.great with
    | false => rfl
    | true => exact absurd (List.any_eq_true.2 ⟨p, hp, hg⟩) (by rw [h1]; simp)⟩
theorem Great3_pure (T : Ty) : APure Try.prog 28 [.agg T.cells] (.v (.bool T.great)) := by
  refine APure.mkL (.cons T.dataAgg .nil) (.v _) ?_
  refine ACalls_intro Try.func28 (by kernel_rfl) rfl (by rw [Try.ntmps28]; simp) (fun hm => ?_)
  simp only [Try.ntmps28, Try.results28, List.length_cons, List.length_nil, Nat.reduceAdd, Nat.reduceSub, List.replicate_succ, List.replicate_zero, List.cons_append, List.nil_append]
  simp only [Ty.cells_eq T, List.cons_append, List.nil_append]
  refine AWp_seqK fun K1 hK1 => ?_
  refine AWp_region ?_
  simp only [↓aops, ↓aop, ↓aWant, ↓aVal, bS, bA, AV.flat, AV.cl, AV.one, Value.oneCell', thenQ, blockQ, noGotoQ, ↓reduceIte, Nat.reduceEqDiff, reduceCtorEq]
  refine hK1 _ ?_
  try clear hK1 K1
  refine AWp_seqK fun K2 hK2 => ?_
  refine AWp_region ?_
  refine aops_chunk 1 fun C3 hC3 => ?_
  simp only [bL, ↓aops, ↓aop, ↓aWant, ↓aVal, bS, bA, AV.flat, AV.cl, AV.one, Value.oneCell', thenQ, blockQ, noGotoQ, ↓reduceIte, Nat.reduceEqDiff, reduceCtorEq, aLoad, ti32, getO, pack, Nat.reduceAdd, Nat.reduceLeDiff]
  refine hC3 _ ?_
  try clear hC3 C3
  simp only [bL]
  refine aops_chunk 1 fun C4 hC4 => ?_
  simp only [bL, ↓aops, ↓aop, ↓aWant, ↓aVal, bS, bA, AV.flat, AV.cl, AV.one, Value.oneCell', thenQ, blockQ, noGotoQ, ↓reduceIte, Nat.reduceEqDiff, reduceCtorEq, aCallV]
  refine APure.call (by have h9 := room_pure T 300 40 (by omega) (by omega) (by omega); rw [Ty.cells_eq T] at h9; exact h9) ?_
  try simp only [bS, bA, thenQ, blockQ, noGotoQ]
  refine hC4 _ ?_
  try clear hC4 C4
  simp only [bL]
  simp only [↓aops, ↓aop, ↓aWant, ↓aVal, bS, bA, AV.flat, AV.cl, AV.one, Value.oneCell', thenQ, blockQ, noGotoQ, ↓reduceIte, Nat.reduceEqDiff, reduceCtorEq, aBin]
  refine hK2 _ ?_
  try clear hK2 K2
  refine AWp_ret ?_
  try simp only [thenQ, blockQ, noGotoQ, retQ, aRes, tupOf, bS, bA]
  exact Le.of_eq (congrArg (fun b => AV.v (.bool b)) rfl)
theorem Great11_pure (ps : List Ty) : APure Try.prog 11 [.sl 3 (ps.map Ty.cells)] (.v (.bool (greatL ps))) := by
  refine APure.mkL (.cons (Ty.dataSl ps) .nil) (.v _) ?_
  refine ACalls_intro Try.func11 (by kernel_rfl) rfl (by rw [Try.ntmps11]; simp) (fun hm => ?_)
  simp only [Try.ntmps11, Try.results11, List.length_cons, List.length_nil, Nat.reduceAdd, Nat.reduceSub, List.replicate_succ, List.replicate_zero, List.cons_append, List.nil_append]
  refine AWp_seqK fun K1 hK1 => ?_
  refine AWp_region ?_
  simp only [↓aops, ↓aop, ↓aWant, ↓aVal, bS, bA, AV.flat, AV.cl, AV.one, Value.oneCell', thenQ, blockQ, noGotoQ, ↓reduceIte, Nat.reduceEqDiff, reduceCtorEq, tyX]
  refine hK1 _ ?_
  try clear hK1 K1
  refine AWp_seqK fun K2 hK2 => ?_
  refine AWp_region ?_
  simp only [↓aops, ↓aop, ↓aWant, ↓aVal, bS, bA, AV.flat, AV.cl, AV.one, Value.oneCell', thenQ, blockQ, noGotoQ, ↓reduceIte, Nat.reduceEqDiff, reduceCtorEq, tyX]
  refine hK2 _ ?_
  try clear hK2 K2
  refine AWp_seqK fun K3 hK3 => ?_
  refine AWp_seqK fun K4 hK4 => ?_
  refine AWp_region ?_
  simp only [↓aops, ↓aop, ↓aWant, ↓aVal, bS, bA, AV.flat, AV.cl, AV.one, Value.oneCell', thenQ, blockQ, noGotoQ, ↓reduceIte, Nat.reduceEqDiff, reduceCtorEq, tyX]
  refine hK4 _ ?_
  try clear hK4 K4
  refine AWp_block ?_
  refine AWp_loopM (σ := Nat) [true, false, false, true, true, false, false, false, false, false, false, false, false, false, false, false, false, false, false, false, false, false, false, false, false, false, false, false, false, false, false, false, false, false] (fun s => s ≤ ps.length ∧ s ≤ 40 ∧ Ty.cntL (ps.take s) ≤ 300 * s ∧ ∀ (i : Nat) (p : Ty), i < s → ps[i]? = some p → p.great = false) (fun s => [(3, .v (.int .i64 (Ty.cntL (ps.take s) : Nat))), (4, .v (.int .i64 (s : Int)))]) (fun s => []) (fun s => 40 - s) 0 (⟨by omega, by omega, by simp [Ty.cntL], fun i p hi => by omega⟩) ?_ (fun s hs => ?_)
  · skip
    simp only [maskL, setsL, putsO, putO, bA, Nat.reduceEqDiff, ↓reduceIte, bL, Ty.cntL, Int.natCast_zero, Int.ofNat_zero, Int.cast_ofNat_Int]
    exact Weak.mk (by simp only [LeL, Le.refl, Le.any, Le.slNil, and_self, Int.natCast_add, Int.cast_ofNat_Int, Int.natCast_one]) (fun _ _ h => h) rfl rfl
  simp only [maskL, setsL, putsO, putO, bA, Nat.reduceEqDiff, ↓reduceIte]
  refine AWp_seqK fun K5 hK5 => ?_
  refine AWp_joinM [true, false, false, true, true, false, false, false, false, false, false, false, true, false, false, false, false, false, false, false, false, false, false, false, false, false, false, false, false, false, false, false, false, false] ([(12, .v (.bool (decide (s < ps.length ∧ s < 40))))]) ([]) ?_ ?_
  · skip
    refine AWp_region ?_
    refine aops_chunk 4 fun C6 hC6 => ?_
    simp only [bL, ↓aops, ↓aop, ↓aWant, ↓aVal, bS, bA, AV.flat, AV.cl, AV.one, Value.oneCell', thenQ, blockQ, noGotoQ, ↓reduceIte, Nat.reduceEqDiff, reduceCtorEq, getO, aLenX, aLen, ln22, List.length_map, aBin, tyX]
    refine hC6 _ ?_
    try clear hC6 C6
    simp only [bL]
    refine aops_chunk 1 fun C7 hC7 => ?_
    simp only [bL, ↓aops, ↓aop, ↓aWant, ↓aVal, bS, bA, AV.flat, AV.cl, AV.one, Value.oneCell', thenQ, blockQ, noGotoQ, ↓reduceIte, Nat.reduceEqDiff, reduceCtorEq, tyX]
    refine hC7 _ ?_
    try clear hC7 C7
    simp only [bL]
    refine aops_case 9 rfl (fun hc9 => ?_) (fun hc9 => ?_)
    · simp only [List.set_cons_zero, List.set_cons_succ]
      simp only [↓aops, ↓aop, ↓aWant, ↓aVal, bS, bA, AV.flat, AV.cl, AV.one, Value.oneCell', thenQ, blockQ, noGotoQ, ↓reduceIte, Nat.reduceEqDiff, reduceCtorEq, bL, undef, aBin, aBool, tyX]
      try simp only [maskL, setsL, putsO, putO, bA, Nat.reduceEqDiff, ↓reduceIte]
      refine Weak.mk ?_ (fun _ _ h => h) rfl rfl
      simp only [LeL, Le.refl, Le.any, and_self, and_true, true_and]
      all_goals (refine Le.of_eq (congrArg (fun b => AV.v (.bool b)) ?_); rw [Bool.eq_iff_iff]; simp only [decide_eq_true_eq, decide_eq_false_iff_not, Bool.false_eq_true, false_iff, Int.ofNat_lt] at *; omega)
    · simp only [List.set_cons_zero, List.set_cons_succ]
      simp only [↓aops, ↓aop, ↓aWant, ↓aVal, bS, bA, AV.flat, AV.cl, AV.one, Value.oneCell', thenQ, blockQ, noGotoQ, ↓reduceIte, Nat.reduceEqDiff, reduceCtorEq, bL, undef, aBin, aBool, tyX]
      try simp only [maskL, setsL, putsO, putO, bA, Nat.reduceEqDiff, ↓reduceIte]
      refine Weak.mk ?_ (fun _ _ h => h) rfl rfl
      simp only [LeL, Le.refl, Le.any, and_self, and_true, true_and]
      all_goals (refine Le.of_eq (congrArg (fun b => AV.v (.bool b)) ?_); rw [Bool.eq_iff_iff]; simp only [decide_eq_true_eq, decide_eq_false_iff_not, Bool.false_eq_true, false_iff, Int.ofNat_lt] at *; omega)
  simp only [maskL, setsL, putsO, putO, bA, Nat.reduceEqDiff, ↓reduceIte]
  refine AWp_cond rfl (fun hb12 => ?_) (fun hb12 => ?_)
  · skip
    have hk0 : s < ps.length ∧ s < 40 := by simpa using hb12
    have hk : s < ps.length := hk0.1
    obtain ⟨p, hp⟩ : ∃ p, ps[s]? = some p := ⟨_, List.getElem?_eq_getElem hk⟩
    have hcs := Ty.cntL_take hp
    have hw : IntKind.i64.wrap ((s : Int) + 1) = (s : Int) + 1 := wrap_in (by omega) (by omega)
    refine AWp_skip ?_
    try simp only [thenQ, blockQ, noGotoQ]
    refine hK5 _ ?_
    try clear hK5 K5
    refine AWp_seqK fun K8 hK8 => ?_
    refine AWp_block ?_
    refine AWp_seqK fun K9 hK9 => ?_
    refine AWp_seqK fun K10 hK10 => ?_
    refine AWp_region ?_
    refine aops_chunk 4 fun C11 hC11 => ?_
    simp only [bL, ↓aops, ↓aop, ↓aWant, ↓aVal, bS, bA, AV.flat, AV.cl, AV.one, Value.oneCell', thenQ, blockQ, noGotoQ, ↓reduceIte, Nat.reduceEqDiff, reduceCtorEq, getO, aIndexA, es22, Int.natCast_nonneg, Int.ofNat_lt, Int.toNat_natCast, List.length_map, Int.le_refl, Int.toNat_zero, Int.toNat_one, Int.reduceLE, aLoad, ti32, pack, Nat.reduceAdd, Nat.reduceLeDiff, tyX, hk, getD_map_cells hp, Int.natCast_add, Int.natCast_one, hw]
    refine hC11 _ ?_
    try clear hC11 C11
    simp only [bL]
    simp only [↓aops, ↓aop, ↓aWant, ↓aVal, bS, bA, AV.flat, AV.cl, AV.one, Value.oneCell', thenQ, blockQ, noGotoQ, ↓reduceIte, Nat.reduceEqDiff, reduceCtorEq, aCallV, bL, tyX, hk, getD_map_cells hp, Int.natCast_add, Int.natCast_one, hw]
    refine APure.call (Great3_pure p) ?_
    try simp only [bS, bA, thenQ, blockQ, noGotoQ]
    refine hK10 _ ?_
    try clear hK10 K10
    refine AWp_cond rfl (fun hb19 => ?_) (fun hb19 => ?_)
    · skip
      refine AWp_seqK fun K12 hK12 => ?_
      refine AWp_region ?_
      simp only [↓aops, ↓aop, ↓aWant, ↓aVal, bS, bA, AV.flat, AV.cl, AV.one, Value.oneCell', thenQ, blockQ, noGotoQ, ↓reduceIte, Nat.reduceEqDiff, reduceCtorEq, tyX, hk, getD_map_cells hp, Int.natCast_add, Int.natCast_one, hw]
      refine hK12 _ ?_
      try clear hK12 K12
      refine AWp_ret ?_
      try simp only [thenQ, blockQ, noGotoQ, retQ, aRes, tupOf, bS, bA]
      refine Le.of_eq (congrArg (fun b => AV.v (.bool b)) ?_)
      first | (rw [greatL_true hp (by omega) (by assumption)]; done) | skip
      all_goals (rw [hg1, Bool.eq_iff_iff]; simp only [Bool.or_eq_true, decide_eq_true_eq, decide_eq_false_iff_not, true_iff, Bool.false_eq_true, false_iff] at *; omega)
    · skip
      have hpc := Ty.great_cnt hb19
      have hsz := Ty.sizeW_cnt p (by omega)
      have hw2 : IntKind.i64.wrap ((Ty.cntL (ps.take s) : Int) + p.sizeW) = (Ty.cntL (ps.take (s + 1)) : Int) := by rw [hsz, wrap_in (by omega) (by omega)]; omega
      refine AWp_skip ?_
      try simp only [thenQ, blockQ, noGotoQ]
      refine hK9 _ ?_
      try clear hK9 K9
      refine AWp_region ?_
      refine aops_chunk 4 fun C13 hC13 => ?_
      simp only [bL, ↓aops, ↓aop, ↓aWant, ↓aVal, bS, bA, AV.flat, AV.cl, AV.one, Value.oneCell', thenQ, blockQ, noGotoQ, ↓reduceIte, Nat.reduceEqDiff, reduceCtorEq, getO, aIndexA, es22, Int.natCast_nonneg, Int.ofNat_lt, Int.toNat_natCast, List.length_map, Int.le_refl, Int.toNat_zero, Int.toNat_one, Int.reduceLE, tyX, hk, getD_map_cells hp, Int.natCast_add, Int.natCast_one, hw, hw2]
      refine hC13 _ ?_
      try clear hC13 C13
      simp only [bL]
      refine aops_chunk 1 fun C14 hC14 => ?_
      simp only [bL, ↓aops, ↓aop, ↓aWant, ↓aVal, bS, bA, AV.flat, AV.cl, AV.one, Value.oneCell', thenQ, blockQ, noGotoQ, ↓reduceIte, Nat.reduceEqDiff, reduceCtorEq, aLoad, ti32, getO, pack, Nat.reduceAdd, Nat.reduceLeDiff, tyX, hk, getD_map_cells hp, Int.natCast_add, Int.natCast_one, hw, hw2]
      refine hC14 _ ?_
      try clear hC14 C14
      simp only [bL]
      refine aops_chunk 1 fun C15 hC15 => ?_
      simp only [bL, ↓aops, ↓aop, ↓aWant, ↓aVal, bS, bA, AV.flat, AV.cl, AV.one, Value.oneCell', thenQ, blockQ, noGotoQ, ↓reduceIte, Nat.reduceEqDiff, reduceCtorEq, aCallV, tyX, hk, getD_map_cells hp, Int.natCast_add, Int.natCast_one, hw, hw2]
      refine APure.call (Size_pure p) ?_
      try simp only [bS, bA, thenQ, blockQ, noGotoQ]
      refine hC15 _ ?_
      try clear hC15 C15
      simp only [bL]
      simp only [↓aops, ↓aop, ↓aWant, ↓aVal, bS, bA, AV.flat, AV.cl, AV.one, Value.oneCell', thenQ, blockQ, noGotoQ, ↓reduceIte, Nat.reduceEqDiff, reduceCtorEq, aBin, tyX, hk, getD_map_cells hp, Int.natCast_add, Int.natCast_one, hw, hw2]
      refine hK8 _ ?_
      try clear hK8 K8
      refine AWp_region ?_
      simp only [↓aops, ↓aop, ↓aWant, ↓aVal, bS, bA, AV.flat, AV.cl, AV.one, Value.oneCell', thenQ, blockQ, noGotoQ, ↓reduceIte, Nat.reduceEqDiff, reduceCtorEq, aBin, tyX, hk, getD_map_cells hp, Int.natCast_add, Int.natCast_one, hw, hw2]
      refine ⟨(s + 1), ⟨by omega, by omega, by omega, fun i p' hi h1 => (by rcases Nat.lt_or_ge i s with h3 | h3 <;> first | exact hs.2.2.2 i p' h3 h1 | (obtain rfl : i = s := (by omega); rw [hp] at h1; cases h1; exact hb19))⟩, by omega, ?_⟩
      simp only [maskL, setsL, putsO, putO, bA, Nat.reduceEqDiff, ↓reduceIte, hk, getD_map_cells hp, Int.natCast_add, Int.natCast_one, hw, hw2]
      exact Weak.mk (by simp only [LeL, Le.refl, Le.any, Le.slNil, and_self, Int.natCast_add, Int.cast_ofNat_Int, Int.natCast_one]) (fun _ _ h => h) rfl rfl
  · skip
    have hk0 : ¬ (s < ps.length ∧ s < 40) := by simpa using hb12
    obtain ⟨hg1, hg2⟩ := greatL_end hk0 hs.1 hs.2.1 hs.2.2.2
    refine AWp_exit ?_
    simp only [thenQ, blockQ, noGotoQ, bA, Nat.reduceEqDiff, ↓reduceIte]
    refine hK3 _ ?_
    try clear hK3 K3
    refine AWp_seqK fun K16 hK16 => ?_
    refine AWp_region ?_
    refine aops_chunk 4 fun C17 hC17 => ?_
    simp only [bL, ↓aops, ↓aop, ↓aWant, ↓aVal, bS, bA, AV.flat, AV.cl, AV.one, Value.oneCell', thenQ, blockQ, noGotoQ, ↓reduceIte, Nat.reduceEqDiff, reduceCtorEq, getO, aLenX, aLen, ln22, List.length_map, aBin, tyX]
    refine hC17 _ ?_
    try clear hC17 C17
    simp only [bL]
    refine aops_case 30 rfl (fun hc30 => ?_) (fun hc30 => ?_)
    · simp only [List.set_cons_zero, List.set_cons_succ]
      simp only [↓aops, ↓aop, ↓aWant, ↓aVal, bS, bA, AV.flat, AV.cl, AV.one, Value.oneCell', thenQ, blockQ, noGotoQ, ↓reduceIte, Nat.reduceEqDiff, reduceCtorEq, bL, undef, aBin, aBool, tyX]
      refine hK16 _ ?_
      try clear hK16 K16
      refine AWp_ret ?_
      try simp only [thenQ, blockQ, noGotoQ, retQ, aRes, tupOf, bS, bA]
      refine Le.of_eq (congrArg (fun b => AV.v (.bool b)) ?_)
      first | (rw [greatL_true hp (by omega) (by assumption)]; done) | skip
      all_goals (rw [hg1, Bool.eq_iff_iff]; simp only [Bool.or_eq_true, decide_eq_true_eq, decide_eq_false_iff_not, true_iff, Bool.false_eq_true, false_iff] at *; omega)
    · simp only [List.set_cons_zero, List.set_cons_succ]
      simp only [↓aops, ↓aop, ↓aWant, ↓aVal, bS, bA, AV.flat, AV.cl, AV.one, Value.oneCell', thenQ, blockQ, noGotoQ, ↓reduceIte, Nat.reduceEqDiff, reduceCtorEq, bL, undef, aBin, aBool, tyX]
      refine hK16 _ ?_
      try clear hK16 K16
      refine AWp_ret ?_
      try simp only [thenQ, blockQ, noGotoQ, retQ, aRes, tupOf, bS, bA]
      refine Le.of_eq (congrArg (fun b => AV.v (.bool b)) ?_)
      first | (rw [greatL_true hp (by omega) (by assumption)]; done) | skip
      all_goals (rw [hg1, Bool.eq_iff_iff]; simp only [Bool.or_eq_true, decide_eq_true_eq, decide_eq_false_iff_not, true_iff, Bool.false_eq_true, false_iff] at *; omega)
theorem RSize_pure (g : List RNode) (i : Nat) (r : RNode) (hr : g[i]? = some r) : APure Try.prog 16 [.sl 4 (g.map RNode.cells), .v (.int .i64 i)] (.v (.int .i64 r.t.sizeW)) := by
  refine APure.mkL (.cons (RNode.dataSl g) (.cons (.v _) .nil)) (.v _) ?_
  refine ACalls_intro Try.func16 (by kernel_rfl) rfl (by rw [Try.ntmps16]; simp) (fun hm => ?_)
  simp only [Try.ntmps16, Try.results16, List.length_cons, List.length_nil, Nat.reduceAdd, Nat.reduceSub, List.replicate_succ, List.replicate_zero, List.cons_append, List.nil_append]
  have hlt : i < g.length := (List.getElem?_eq_some_iff.1 hr).1
  refine AWp_seqK fun K1 hK1 => ?_
  refine AWp_region ?_
  simp only [↓aops, ↓aop, ↓aWant, ↓aVal, bS, bA, AV.flat, AV.cl, AV.one, Value.oneCell', thenQ, blockQ, noGotoQ, ↓reduceIte, Nat.reduceEqDiff, reduceCtorEq, hlt, getD_map_cells hr, RNode.cells, bL, Int.ofNat_lt, Ty.refold]
  refine hK1 _ ?_
  try clear hK1 K1
  refine AWp_seqK fun K2 hK2 => ?_
  refine AWp_region ?_
  refine aops_chunk 4 fun C3 hC3 => ?_
  simp only [bL, ↓aops, ↓aop, ↓aWant, ↓aVal, bS, bA, AV.flat, AV.cl, AV.one, Value.oneCell', thenQ, blockQ, noGotoQ, ↓reduceIte, Nat.reduceEqDiff, reduceCtorEq, getO, aIndexA, es27, Int.natCast_nonneg, Int.ofNat_lt, Int.toNat_natCast, List.length_map, Int.le_refl, Int.toNat_zero, Int.toNat_one, Int.reduceLE, aField, fo38_0, Nat.reduceAdd, hlt, getD_map_cells hr, RNode.cells, Ty.refold]
  refine hC3 _ ?_
  try clear hC3 C3
  simp only [bL]
  refine aops_chunk 1 fun C4 hC4 => ?_
  simp only [bL, ↓aops, ↓aop, ↓aWant, ↓aVal, bS, bA, AV.flat, AV.cl, AV.one, Value.oneCell', thenQ, blockQ, noGotoQ, ↓reduceIte, Nat.reduceEqDiff, reduceCtorEq, aLoad, ti32, getO, pack, Nat.reduceAdd, Nat.reduceLeDiff, hlt, getD_map_cells hr, RNode.cells, Int.ofNat_lt, Ty.refold]
  refine hC4 _ ?_
  try clear hC4 C4
  simp only [bL]
  refine aops_chunk 1 fun C5 hC5 => ?_
  simp only [bL, ↓aops, ↓aop, ↓aWant, ↓aVal, bS, bA, AV.flat, AV.cl, AV.one, Value.oneCell', thenQ, blockQ, noGotoQ, ↓reduceIte, Nat.reduceEqDiff, reduceCtorEq, aCallV, hlt, getD_map_cells hr, RNode.cells, Int.ofNat_lt, Ty.refold]
  refine APure.call (Size_pure r.t) ?_
  try simp only [bS, bA, thenQ, blockQ, noGotoQ]
  refine hC5 _ ?_
  try clear hC5 C5
  simp only [bL]
  simp only [↓aops, ↓aop, ↓aWant, ↓aVal, bS, bA, AV.flat, AV.cl, AV.one, Value.oneCell', thenQ, blockQ, noGotoQ, ↓reduceIte, Nat.reduceEqDiff, reduceCtorEq, hlt, getD_map_cells hr, RNode.cells, bL, Int.ofNat_lt, Ty.refold]
  refine hK2 _ ?_
  try clear hK2 K2
  refine AWp_ret ?_
  try simp only [thenQ, blockQ, noGotoQ, retQ, aRes, tupOf, bS, bA]
  exact Le.refl _
end Go.Proofs.Ytohdoloalolpfaa
