import Derived.Test.YtohdoloalolpfaaRob3
namespace Go.Proofs.Ytohdoloalolpfaa
open Go Go.RowKit
set_option maxRecDepth 100000
set_option maxHeartbeats 1000000
set_option linter.unusedSimpArgs false
set_option linter.unusedVariables false
attribute [local irreducible] aops dRun
/-- a map of types -/
def tC (t : Ty) : AV := .agg t.cells
def mC (m : List (Int × Ty)) : List (Int × AV) := m.map fun p => (p.1, tC p.2)
theorem mC_nil : mC [] = [] := rfl
theorem mC_data (m : List (Int × Ty)) : ∀ p ∈ mC m, Data p.2 := fun p hp => by
  obtain ⟨q, _, rfl⟩ := List.mem_map.1 hp
  exact Ty.dataAgg _
theorem mSome (m : List (Int × Ty)) (k : Int) : (aFind (mC m) k).isSome = (pfind m k).isSome := by rw [mC, aFind_p]; cases pfind m k <;> rfl
theorem mSet (m : List (Int × Ty)) (k : Int) (t : Ty) : aSet (mC m) k (.agg t.cells) = mC (pset m k t) := aSet_p tC k t m
def zT : AV := .agg [.v (.int .i64 0), .v (.int .i64 0), .v (.slice none 0 0)]
theorem valAV_ty : valAV (.agg #[.int .i64 0, .int .i64 0, .slice none 0 0]) = zT := rfl
theorem mGet {m : List (Int × Ty)} {k : Int} {x : Ty} (h : pfind m k = some x) (z : AV) : (aFind (mC m) k).getD z = .agg x.cells := by rw [mC, aFind_p, h]; rfl
theorem lookTy (m : List (Int × Ty)) (k : Int) : ∃ cs : List AV, (aFind (mC m) k).getD zT = .agg cs ∧ cs.length = 3 ∧ cs.all AV.one = true ∧ cs.take 3 = cs ∧ ∀ x, pfind m k = some x → cs = x.cells := by
  cases h : pfind m k with
  | none => exact ⟨[.v (.int .i64 0), .v (.int .i64 0), .v (.slice none 0 0)], by rw [mC, aFind_p, h]; rfl, rfl, rfl, rfl, fun x hx => by cases hx⟩
  | some x => exact ⟨x.cells, mGet h _, x.cells_len, x.cells_one, x.cells_take3, fun y hy => by cases hy; rfl⟩
def MCalls (f : Nat) (args : List AV) (m : List (Int × Ty)) (R : AV) (m1 : List (Int × Ty)) : Prop :=
  ACalls Try.prog f args (enumO 0 [.map (mC m)]) 1 fun r os n => (r = R ∧ os = enumO 0 [.map (mC m1)]) ∧ n = 1
theorem Und.mC {n : Nat} (m : List (Int × Ty)) : (∀ p ∈ Go.Proofs.Ytohdoloalolpfaa.mC m, Und n p.2) = True := eq_true fun p hp => .data (mC_data m p hp)
theorem mUnd {n : Nat} (h : 1 ≤ n) (m : List (Int × Ty)) : UndOs n (enumO 0 [.map (mC m)]) := ⟨by omega, fun p hp => .data (mC_data m p hp), trivial⟩
theorem MCalls.at {f : Nat} {args : List AV} {m m1 : List (Int × Ty)} {R : AV} (h : MCalls f (.map 0 :: args) m R m1) (hd : DataL args) (hR : Data R) {i : Nat} {os' : Os} {nx' : Nat}
    (hi : getO os' i = some (.map (mC m))) (li : i < nx') {Q' : AV → Os → Nat → Prop} (hq : Q' R (putO os' i (.map (mC m1))) nx') : ACalls Try.prog f (.map i :: args) os' nx' Q' := by
  have same : ∀ (l : List AV), DataL l → RenL (renOf [i] nx') l l := by
    intro l hl
    induction l with
    | nil => trivial
    | cons x l ih => exact ⟨.data (hl x (by simp)), ih fun y hy => hl y (by simp [hy])⟩
  have ren : ∀ m : List (Int × Ty), RenOs (renOf [i] nx') 0 [.map (mC m)] [.map (mC m)] := fun m => ⟨.map (mC_data m), trivial⟩
  refine ACalls.at (args := .map 0 :: args) (obs := [.map (mC m)]) (obs1 := [.map (mC m1)]) (obs' := [.map (mC m)]) (obs1' := [.map (mC m1)]) [i] ?_ rfl rfl (by simp) (by simpa using li) ⟨.map rfl, same args hd⟩ (.data hR) (ren m) ⟨hi, trivial⟩ (ren m1) hq
  exact h.mono fun r os n ⟨⟨h1, h2⟩, h3⟩ => ⟨h1, h2, h3⟩
theorem Ty.matchL_append : ∀ (ps qs ps' qs' : List Ty) (m : List (Int × Ty)), ps.length = qs.length → Ty.matchL (ps ++ ps') (qs ++ qs') m = if (Ty.matchL ps qs m).1 then Ty.matchL ps' qs' (Ty.matchL ps qs m).2 else (false, (Ty.matchL ps qs m).2)
  | [], [], ps', qs', m, _ => by simp [Ty.matchL]
  | [], _ :: _, _, _, _, h => by simp at h
  | _ :: _, [], _, _, _, h => by simp at h
  | p :: ps, q :: qs, ps', qs', m, h => by
    simp only [List.cons_append, Ty.matchL]
    by_cases h1 : (p.match q m).1
    · simp only [h1, if_true]; exact Ty.matchL_append ps qs ps' qs' _ (by simpa using h)
    · simp [h1]
theorem Ty.matchL_one (p q : Ty) (m : List (Int × Ty)) : Ty.matchL [p] [q] m = p.match q m := by
  rw [Ty.matchL]
  split
  · rename_i h; rw [Ty.matchL]; exact Prod.ext h.symm rfl
  · rename_i h; exact Prod.ext (by simpa using (Bool.not_eq_true _ ▸ h : (p.match q m).1 = false).symm) rfl
theorem Ty.matchL_step {ps qs : List Ty} {s : Nat} {p q : Ty} (hp : ps[s]? = some p) (hq : qs[s]? = some q) (hl : ps.length = qs.length) (m : List (Int × Ty)) (h : (Ty.matchL (ps.take s) (qs.take s) m).1 = true) :
    Ty.matchL (ps.take (s + 1)) (qs.take (s + 1)) m = p.match q (Ty.matchL (ps.take s) (qs.take s) m).2 := by
  rw [List.take_add_one, List.take_add_one, hp, hq, Ty.matchL_append _ _ _ _ _ (by simp [hl]), if_pos h]
  exact Ty.matchL_one p q _
theorem Ty.matchL_stop {ps qs : List Ty} {s : Nat} {p q : Ty} (hp : ps[s]? = some p) (hq : qs[s]? = some q) (hl : ps.length = qs.length) (m : List (Int × Ty)) (h : (Ty.matchL (ps.take s) (qs.take s) m).1 = true)
    (h2 : (p.match q (Ty.matchL (ps.take s) (qs.take s) m).2).1 = false) : Ty.matchL ps qs m = (false, (p.match q (Ty.matchL (ps.take s) (qs.take s) m).2).2) := by
  have e := Ty.matchL_step hp hq hl m h
  conv => lhs; rw [← List.take_append_drop (s + 1) ps, ← List.take_append_drop (s + 1) qs]
  rw [Ty.matchL_append _ _ _ _ _ (by simp [hl]), e, if_neg (by rw [h2]; simp)]
theorem Ty.stand_cnt (v : Int) : ∀ (g t x : Ty), g.stand v t = some x → x.cnt ≤ t.cnt := by
  refine Ty.ind fun g ih t x h => ?_
  rw [Ty.stand_eq] at h
  split at h
  · cases h; exact Nat.le_refl _
  · have hL : ∀ (ps us : List Ty), (∀ p ∈ ps, ∀ t x : Ty, p.stand v t = some x → x.cnt ≤ t.cnt) → Ty.standL v ps us = some x → x.cnt ≤ Ty.cntL us := by
      intro ps
      induction ps with
      | nil => intro us _ h; rw [Ty.standL] at h; cases h
      | cons p ps ih2 =>
        intro us hp h
        cases us with
        | nil => rw [Ty.standL] at h; cases h
        | cons u us =>
          rw [Ty.standL] at h
          rw [Ty.cntL]
          split at h
          · rename_i y hy; cases h; have := hp p (by simp) u _ hy; omega
          · have := ih2 us (fun p hp' => hp p (by simp [hp'])) h; omega
    have := hL g.ps t.ps ih h
    rw [t.cnt_eq]; omega
theorem Ty.standL_none {v : Int} : ∀ {ps us : List Ty}, (∀ (i : Nat) (p q : Ty), ps[i]? = some p → us[i]? = some q → p.stand v q = none) → Ty.standL v ps us = none
  | [], us, _ => by rw [Ty.standL]
  | _ :: _, [], _ => by rw [Ty.standL]
  | p :: ps, u :: us, h => by
    rw [Ty.standL, h 0 p u rfl rfl]
    exact Ty.standL_none fun i p q hp hq => h (i + 1) p q (by simpa using hp) (by simpa using hq)
theorem Ty.standL_some {v : Int} {x : Ty} : ∀ {ps us : List Ty} {s : Nat} {p q : Ty}, ps[s]? = some p → us[s]? = some q → p.stand v q = some x → (∀ (i : Nat) (p q : Ty), i < s → ps[i]? = some p → us[i]? = some q → p.stand v q = none) → Ty.standL v ps us = some x
  | [], us, s, p, q, h, _, _, _ => by simp at h
  | _ :: _, [], s, p, q, _, h, _, _ => by simp at h
  | p0 :: ps, u0 :: us, 0, p, q, h1, h2, h3, _ => by
    simp at h1 h2; subst h1; subst h2
    rw [Ty.standL, h3]
  | p0 :: ps, u0 :: us, s + 1, p, q, h1, h2, h3, h4 => by
    rw [Ty.standL, h4 0 p0 u0 (by omega) rfl rfl]
    exact Ty.standL_some (s := s) (by simpa using h1) (by simpa using h2) h3 fun i p q hi hp hq => h4 (i + 1) p q (by omega) (by simpa using hp) (by simpa using hq)
theorem match_calls : ∀ (T U : Ty) (m : List (Int × Ty)), MCalls 62 [.map 0, .agg T.cells, .agg U.cells] m (.v (.bool (T.match U m).1)) (T.match U m).2 := by
  refine Ty.ind fun T ih U m => ?_
  refine ACalls.clean (C := fun r os => r = _ ∧ os = _) ?_
  refine ACalls_intro Try.func62 (by kernel_rfl) rfl (by rw [Try.ntmps62]; simp) (fun hm => ?_)
  simp only [Try.ntmps62, Try.results62, List.length_cons, List.length_nil, Nat.reduceAdd, Nat.reduceSub, List.replicate_succ, List.replicate_zero, List.cons_append, List.nil_append]
  obtain ⟨cs, hcs, hl3, hone, htk, hcx⟩ := lookTy m T.n
  have hm1 := hm.wide (t := T) (by simp)
  have hm2 := hm1.len
  have mSetU := mSet m T.n U
  rw [Ty.cells_eq U] at mSetU
  simp only [enumO, Nat.reduceAdd]
  simp only [Ty.cells_eq T, Ty.cells_eq U, List.cons_append, List.nil_append]
  refine AWp_seqK fun K1 hK1 => ?_
  refine AWp_region ?_
  refine aops_chunk 2 fun C2 hC2 => ?_
  simp only [bL, ↓aops, ↓aop, ↓aWant, ↓aVal, bS, bA, AV.flat, AV.cl, AV.one, Value.oneCell', thenQ, blockQ, noGotoQ, ↓reduceIte, Nat.reduceEqDiff, reduceCtorEq, tyX, ↓valAV_ty, hcs, hl3, hone, htk, mSome, mSetU]
  refine hC2 _ ?_
  try clear hC2 C2
  simp only [bL]
  simp only [↓aops, ↓aop, ↓aWant, ↓aVal, bS, bA, AV.flat, AV.cl, AV.one, Value.oneCell', thenQ, blockQ, noGotoQ, ↓reduceIte, Nat.reduceEqDiff, reduceCtorEq, tyX, ↓valAV_ty, hcs, hl3, hone, htk, mSome, mSetU]
  refine hK1 _ ?_
  try clear hK1 K1
  refine AWp_seqK fun K3 hK3 => ?_
  refine AWp_seqK fun K4 hK4 => ?_
  refine AWp_region ?_
  refine aops_chunk 2 fun C5 hC5 => ?_
  simp only [bL, ↓aops, ↓aop, ↓aWant, ↓aVal, bS, bA, AV.flat, AV.cl, AV.one, Value.oneCell', thenQ, blockQ, noGotoQ, ↓reduceIte, Nat.reduceEqDiff, reduceCtorEq, aField, fo32_0, Nat.reduceAdd, aLoad, ti3, getO, pack, Nat.reduceLeDiff, tyX, ↓valAV_ty, hcs, hl3, hone, htk, mSome, mSetU]
  refine hC5 _ ?_
  try clear hC5 C5
  simp only [bL]
  simp only [↓aops, ↓aop, ↓aWant, ↓aVal, bS, bA, AV.flat, AV.cl, AV.one, Value.oneCell', thenQ, blockQ, noGotoQ, ↓reduceIte, Nat.reduceEqDiff, reduceCtorEq, aBin, tyX, ↓valAV_ty, hcs, hl3, hone, htk, mSome, mSetU]
  refine hK4 _ ?_
  try clear hK4 K4
  refine AWp_cond rfl (fun hb12 => ?_) (fun hb12 => ?_)
  · skip
    have hk1 : T.k = 1 := by simpa using hb12
    refine AWp_seqK fun K6 hK6 => ?_
    refine AWp_region ?_
    refine aops_chunk 2 fun C7 hC7 => ?_
    simp only [bL, ↓aops, ↓aop, ↓aWant, ↓aVal, bS, bA, AV.flat, AV.cl, AV.one, Value.oneCell', thenQ, blockQ, noGotoQ, ↓reduceIte, Nat.reduceEqDiff, reduceCtorEq, aField, fo32_1, Nat.reduceAdd, tyX, ↓valAV_ty, hcs, hl3, hone, htk, mSome, mSetU]
    refine hC7 _ ?_
    try clear hC7 C7
    simp only [bL]
    refine aops_chunk 2 fun C8 hC8 => ?_
    simp only [bL, ↓aops, ↓aop, ↓aWant, ↓aVal, bS, bA, AV.flat, AV.cl, AV.one, Value.oneCell', thenQ, blockQ, noGotoQ, ↓reduceIte, Nat.reduceEqDiff, reduceCtorEq, aLoad, ti3, getO, pack, Nat.reduceAdd, Nat.reduceLeDiff, aLookup, mz98, valAV, tyX, ↓valAV_ty, hcs, hl3, hone, htk, mSome, mSetU]
    refine hC8 _ ?_
    try clear hC8 C8
    simp only [bL]
    refine aops_chunk 2 fun C9 hC9 => ?_
    simp only [bL, ↓aops, ↓aop, ↓aWant, ↓aVal, bS, bA, AV.flat, AV.cl, AV.one, Value.oneCell', thenQ, blockQ, noGotoQ, ↓reduceIte, Nat.reduceEqDiff, reduceCtorEq, aExtract, Nat.reduceAdd, Nat.reduceLT, Nat.zero_lt_succ, tyX, ↓valAV_ty, hcs, hl3, hone, htk, mSome, mSetU]
    refine hC9 _ ?_
    try clear hC9 C9
    simp only [bL]
    refine aops_chunk 2 fun C10 hC10 => ?_
    simp only [bL, ↓aops, ↓aop, ↓aWant, ↓aVal, bS, bA, AV.flat, AV.cl, AV.one, Value.oneCell', thenQ, blockQ, noGotoQ, ↓reduceIte, Nat.reduceEqDiff, reduceCtorEq, aExtract, Nat.reduceAdd, Nat.reduceLT, Nat.zero_lt_succ, zc32, tyX, ↓valAV_ty, hcs, hl3, hone, htk, mSome, mSetU]
    refine hC10 _ ?_
    try clear hC10 C10
    simp only [bL]
    simp only [↓aops, ↓aop, ↓aWant, ↓aVal, bS, bA, AV.flat, AV.cl, AV.one, Value.oneCell', thenQ, blockQ, noGotoQ, ↓reduceIte, Nat.reduceEqDiff, reduceCtorEq, aStore, ti32, getO, putO, splice, bL, Nat.reduceAdd, Nat.reduceLeDiff, tyX, ↓valAV_ty, hcs, hl3, hone, htk, mSome, mSetU]
    refine hK6 _ ?_
    try clear hK6 K6
    refine AWp_seqK fun K11 hK11 => ?_
    refine AWp_seqK fun K12 hK12 => ?_
    refine AWp_region ?_
    simp only [↓aops, ↓aop, ↓aWant, ↓aVal, bS, bA, AV.flat, AV.cl, AV.one, Value.oneCell', thenQ, blockQ, noGotoQ, ↓reduceIte, Nat.reduceEqDiff, reduceCtorEq, aUn, tyX, ↓valAV_ty, hcs, hl3, hone, htk, mSome, mSetU]
    refine hK12 _ ?_
    try clear hK12 K12
    refine AWp_cond rfl (fun hb21 => ?_) (fun hb21 => ?_)
    · skip
      have hS : (pfind m T.n).isSome = false := by simpa using hb21
      have hfn : pfind m T.n = none := by cases hv : pfind m T.n with | none => rfl | some y => rw [hv] at hS; cases hS
      simp only [hS]
      refine AWp_region ?_
      refine aops_chunk 2 fun C13 hC13 => ?_
      simp only [bL, ↓aops, ↓aop, ↓aWant, ↓aVal, bS, bA, AV.flat, AV.cl, AV.one, Value.oneCell', thenQ, blockQ, noGotoQ, ↓reduceIte, Nat.reduceEqDiff, reduceCtorEq, aField, fo32_1, Nat.reduceAdd, tyX, ↓valAV_ty, hcs, hl3, hone, htk, mSome, mSetU]
      refine hC13 _ ?_
      try clear hC13 C13
      simp only [bL]
      refine aops_chunk 2 fun C14 hC14 => ?_
      simp only [bL, ↓aops, ↓aop, ↓aWant, ↓aVal, bS, bA, AV.flat, AV.cl, AV.one, Value.oneCell', thenQ, blockQ, noGotoQ, ↓reduceIte, Nat.reduceEqDiff, reduceCtorEq, aLoad, ti3, getO, pack, Nat.reduceAdd, Nat.reduceLeDiff, ti32, tyX, ↓valAV_ty, hcs, hl3, hone, htk, mSome, mSetU]
      refine hC14 _ ?_
      try clear hC14 C14
      simp only [bL]
      simp only [↓aops, ↓aop, ↓aWant, ↓aVal, bS, bA, AV.flat, AV.cl, AV.one, Value.oneCell', thenQ, blockQ, noGotoQ, ↓reduceIte, Nat.reduceEqDiff, reduceCtorEq, aMapUpd, mz98, getO, putO, tyX, ↓valAV_ty, hcs, hl3, hone, htk, mSome, mSetU]
      refine hK11 _ ?_
      try clear hK11 K11
      refine AWp_seqK fun K15 hK15 => ?_
      refine AWp_region ?_
      refine aops_chunk 2 fun C16 hC16 => ?_
      simp only [bL, ↓aops, ↓aop, ↓aWant, ↓aVal, bS, bA, AV.flat, AV.cl, AV.one, Value.oneCell', thenQ, blockQ, noGotoQ, ↓reduceIte, Nat.reduceEqDiff, reduceCtorEq, aUn, tyX, ↓valAV_ty, hcs, hl3, hone, htk, mSome, mSetU]
      refine hC16 _ ?_
      try clear hC16 C16
      simp only [bL]
      refine aops_chunk 2 fun C17 hC17 => ?_
      simp only [bL, ↓aops, ↓aop, ↓aWant, ↓aVal, bS, bA, AV.flat, AV.cl, AV.one, Value.oneCell', thenQ, blockQ, noGotoQ, ↓reduceIte, Nat.reduceEqDiff, reduceCtorEq, undef, aLoad, ti32, getO, pack, Nat.reduceAdd, Nat.reduceLeDiff, tyX, ↓valAV_ty, hcs, hl3, hone, htk, mSome, mSetU]
      refine hC17 _ ?_
      try clear hC17 C17
      simp only [bL]
      refine aops_chunk 2 fun C18 hC18 => ?_
      simp only [bL, ↓aops, ↓aop, ↓aWant, ↓aVal, bS, bA, AV.flat, AV.cl, AV.one, Value.oneCell', thenQ, blockQ, noGotoQ, ↓reduceIte, Nat.reduceEqDiff, reduceCtorEq, undef, aLoad, ti32, getO, pack, Nat.reduceAdd, Nat.reduceLeDiff, aCallV, tyX, ↓valAV_ty, hcs, hl3, hone, htk, mSome, mSetU]
      refine hC18 _ ?_
      try clear hC18 C18
      simp only [bL]
      simp only [↓aops, ↓aop, ↓aWant, ↓aVal, bS, bA, AV.flat, AV.cl, AV.one, Value.oneCell', thenQ, blockQ, noGotoQ, ↓reduceIte, Nat.reduceEqDiff, reduceCtorEq, aBool, tyX, ↓valAV_ty, hcs, hl3, hone, htk, mSome, mSetU]
      refine hK15 _ ?_
      try clear hK15 K15
      refine AWp_ret ?_
      try simp only [thenQ, blockQ, noGotoQ, retQ, aRes, tupOf, bS, bA]
      have hg : T.match U m = (true, pset m T.n U) := by rw [Ty.match_var hk1, hfn]
      rw [hg]
      refine ⟨_, enumO 0 [.map (mC (pset m T.n U))], ⟨rfl, rfl⟩, .v _ _, mUnd (by omega) _, ?_, ?_, by omega⟩
      · refine Le.of_eq ?_
        rfl
      · first | (refine ⟨3, rfl, rfl⟩) | (refine ⟨2, rfl, rfl⟩)
    · skip
      have hS : (pfind m T.n).isSome = true := by simpa using hb21
      obtain ⟨x, hfx⟩ := Option.isSome_iff_exists.1 hS
      have hce := hcx x hfx
      subst hce
      simp only [hS]
      refine AWp_skip ?_
      try simp only [thenQ, blockQ, noGotoQ]
      refine hK11 _ ?_
      try clear hK11 K11
      refine AWp_seqK fun K19 hK19 => ?_
      refine AWp_region ?_
      refine aops_chunk 2 fun C20 hC20 => ?_
      simp only [bL, ↓aops, ↓aop, ↓aWant, ↓aVal, bS, bA, AV.flat, AV.cl, AV.one, Value.oneCell', thenQ, blockQ, noGotoQ, ↓reduceIte, Nat.reduceEqDiff, reduceCtorEq, aUn, tyX, ↓valAV_ty, hcs, hl3, hone, htk, mSome, mSetU]
      refine hC20 _ ?_
      try clear hC20 C20
      simp only [bL]
      refine aops_chunk 2 fun C21 hC21 => ?_
      simp only [bL, ↓aops, ↓aop, ↓aWant, ↓aVal, bS, bA, AV.flat, AV.cl, AV.one, Value.oneCell', thenQ, blockQ, noGotoQ, ↓reduceIte, Nat.reduceEqDiff, reduceCtorEq, undef, aLoad, ti32, getO, pack, Nat.reduceAdd, Nat.reduceLeDiff, tyX, ↓valAV_ty, hcs, hl3, hone, htk, mSome, mSetU]
      refine hC21 _ ?_
      try clear hC21 C21
      simp only [bL]
      refine aops_chunk 1 fun C22 hC22 => ?_
      simp only [bL, ↓aops, ↓aop, ↓aWant, ↓aVal, bS, bA, AV.flat, AV.cl, AV.one, Value.oneCell', thenQ, blockQ, noGotoQ, ↓reduceIte, Nat.reduceEqDiff, reduceCtorEq, undef, aLoad, ti32, getO, pack, Nat.reduceAdd, Nat.reduceLeDiff, tyX, ↓valAV_ty, hcs, hl3, hone, htk, mSome, mSetU]
      refine hC22 _ ?_
      try clear hC22 C22
      simp only [bL]
      refine aops_chunk 1 fun C23 hC23 => ?_
      simp only [bL, ↓aops, ↓aop, ↓aWant, ↓aVal, bS, bA, AV.flat, AV.cl, AV.one, Value.oneCell', thenQ, blockQ, noGotoQ, ↓reduceIte, Nat.reduceEqDiff, reduceCtorEq, undef, aCallV, tyX, ↓valAV_ty, hcs, hl3, hone, htk, mSome, mSetU]
      refine APure.call (by have h9 := TSame_pure x U; rw [Ty.cells_eq U] at h9; exact h9) ?_
      try simp only [bS, bA, thenQ, blockQ, noGotoQ]
      refine hC23 _ ?_
      try clear hC23 C23
      simp only [bL]
      simp only [↓aops, ↓aop, ↓aWant, ↓aVal, bS, bA, AV.flat, AV.cl, AV.one, Value.oneCell', thenQ, blockQ, noGotoQ, ↓reduceIte, Nat.reduceEqDiff, reduceCtorEq, aBool, tyX, ↓valAV_ty, hcs, hl3, hone, htk, mSome, mSetU]
      refine hK19 _ ?_
      try clear hK19 K19
      refine AWp_ret ?_
      try simp only [thenQ, blockQ, noGotoQ, retQ, aRes, tupOf, bS, bA]
      have hg : T.match U m = (x.same U, m) := by rw [Ty.match_var hk1, hfx]
      rw [hg]
      refine ⟨_, enumO 0 [.map (mC (m))], ⟨rfl, rfl⟩, .v _ _, mUnd (by omega) _, ?_, ?_, by omega⟩
      · refine Le.of_eq ?_
        rfl
      · first | (refine ⟨3, rfl, rfl⟩) | (refine ⟨2, rfl, rfl⟩)
  · skip
    have hk1 : ¬ T.k = 1 := by simpa using hb12
    refine AWp_skip ?_
    try simp only [thenQ, blockQ, noGotoQ]
    refine hK3 _ ?_
    try clear hK3 K3
    refine AWp_seqK fun K24 hK24 => ?_
    refine AWp_seqK fun K25 hK25 => ?_
    refine AWp_region ?_
    refine aops_chunk 2 fun C26 hC26 => ?_
    simp only [bL, ↓aops, ↓aop, ↓aWant, ↓aVal, bS, bA, AV.flat, AV.cl, AV.one, Value.oneCell', thenQ, blockQ, noGotoQ, ↓reduceIte, Nat.reduceEqDiff, reduceCtorEq, aField, fo32_0, Nat.reduceAdd, aLoad, ti3, getO, pack, Nat.reduceLeDiff, tyX, ↓valAV_ty, hcs, hl3, hone, htk, mSome, mSetU]
    refine hC26 _ ?_
    try clear hC26 C26
    simp only [bL]
    refine aops_chunk 2 fun C27 hC27 => ?_
    simp only [bL, ↓aops, ↓aop, ↓aWant, ↓aVal, bS, bA, AV.flat, AV.cl, AV.one, Value.oneCell', thenQ, blockQ, noGotoQ, ↓reduceIte, Nat.reduceEqDiff, reduceCtorEq, aField, fo32_0, Nat.reduceAdd, aLoad, ti3, getO, pack, Nat.reduceLeDiff, tyX, ↓valAV_ty, hcs, hl3, hone, htk, mSome, mSetU]
    refine hC27 _ ?_
    try clear hC27 C27
    simp only [bL]
    refine aops_chunk 2 fun C28 hC28 => ?_
    simp only [bL, ↓aops, ↓aop, ↓aWant, ↓aVal, bS, bA, AV.flat, AV.cl, AV.one, Value.oneCell', thenQ, blockQ, noGotoQ, ↓reduceIte, Nat.reduceEqDiff, reduceCtorEq, aBin, tyX, ↓valAV_ty, hcs, hl3, hone, htk, mSome, mSetU]
    refine hC28 _ ?_
    try clear hC28 C28
    simp only [bL]
    refine aops_case 38 rfl (fun hc38 => ?_) (fun hc38 => ?_)
    · simp only [List.set_cons_zero, List.set_cons_succ]
      have hno : ¬ (T.k = U.k ∧ T.ps.length = U.ps.length) := fun h9 => by have h8 := h9.1; simp at hc38; exact hc38 h8
      refine aops_chunk 2 fun C29 hC29 => ?_
      simp only [bL, ↓aops, ↓aop, ↓aWant, ↓aVal, bS, bA, AV.flat, AV.cl, AV.one, Value.oneCell', thenQ, blockQ, noGotoQ, ↓reduceIte, Nat.reduceEqDiff, reduceCtorEq, undef, aField, fo32_2, Nat.reduceAdd, aLoad, ti22, getO, pack, Nat.reduceLeDiff, tyX, ↓valAV_ty, hcs, hl3, hone, htk, mSome, mSetU]
      refine hC29 _ ?_
      try clear hC29 C29
      simp only [bL]
      refine aops_chunk 2 fun C30 hC30 => ?_
      simp only [bL, ↓aops, ↓aop, ↓aWant, ↓aVal, bS, bA, AV.flat, AV.cl, AV.one, Value.oneCell', thenQ, blockQ, noGotoQ, ↓reduceIte, Nat.reduceEqDiff, reduceCtorEq, undef, aLen, ln22, List.length_map, aField, fo32_2, Nat.reduceAdd, tyX, ↓valAV_ty, hcs, hl3, hone, htk, mSome, mSetU]
      refine hC30 _ ?_
      try clear hC30 C30
      simp only [bL]
      refine aops_chunk 2 fun C31 hC31 => ?_
      simp only [bL, ↓aops, ↓aop, ↓aWant, ↓aVal, bS, bA, AV.flat, AV.cl, AV.one, Value.oneCell', thenQ, blockQ, noGotoQ, ↓reduceIte, Nat.reduceEqDiff, reduceCtorEq, undef, aLoad, ti22, getO, pack, Nat.reduceAdd, Nat.reduceLeDiff, aLen, ln22, List.length_map, tyX, ↓valAV_ty, hcs, hl3, hone, htk, mSome, mSetU]
      refine hC31 _ ?_
      try clear hC31 C31
      simp only [bL]
      simp only [↓aops, ↓aop, ↓aWant, ↓aVal, bS, bA, AV.flat, AV.cl, AV.one, Value.oneCell', thenQ, blockQ, noGotoQ, ↓reduceIte, Nat.reduceEqDiff, reduceCtorEq, bL, undef, aBin, aBool, tyX, ↓valAV_ty, hcs, hl3, hone, htk, mSome, mSetU]
      refine hK25 _ ?_
      try clear hK25 K25
      refine AWp_cond (b := true) (by first | exact rfl | exact congrArg (fun b => AV.v (.bool b)) hb46) (fun _ => ?_) (fun h => (by cases h))
      refine AWp_seqK fun K32 hK32 => ?_
      refine AWp_region ?_
      simp only [↓aops, ↓aop, ↓aWant, ↓aVal, bS, bA, AV.flat, AV.cl, AV.one, Value.oneCell', thenQ, blockQ, noGotoQ, ↓reduceIte, Nat.reduceEqDiff, reduceCtorEq, tyX, ↓valAV_ty, hcs, hl3, hone, htk, mSome, mSetU]
      refine hK32 _ ?_
      try clear hK32 K32
      refine AWp_ret ?_
      try simp only [thenQ, blockQ, noGotoQ, retQ, aRes, tupOf, bS, bA]
      have hg : T.match U m = (false, m) := Ty.match_no hk1 hno
      rw [hg]
      refine ⟨_, enumO 0 [.map (mC (m))], ⟨rfl, rfl⟩, .v _ _, mUnd (by omega) _, ?_, ?_, by omega⟩
      · refine Le.of_eq ?_
        rfl
      · first | (refine ⟨2, rfl, rfl⟩)
    · simp only [List.set_cons_zero, List.set_cons_succ]
      have hkk : T.k = U.k := by simpa using hc38
      refine aops_chunk 2 fun C33 hC33 => ?_
      simp only [bL, ↓aops, ↓aop, ↓aWant, ↓aVal, bS, bA, AV.flat, AV.cl, AV.one, Value.oneCell', thenQ, blockQ, noGotoQ, ↓reduceIte, Nat.reduceEqDiff, reduceCtorEq, undef, aField, fo32_2, Nat.reduceAdd, aLoad, ti22, getO, pack, Nat.reduceLeDiff, tyX, ↓valAV_ty, hcs, hl3, hone, htk, mSome, mSetU]
      refine hC33 _ ?_
      try clear hC33 C33
      simp only [bL]
      refine aops_chunk 2 fun C34 hC34 => ?_
      simp only [bL, ↓aops, ↓aop, ↓aWant, ↓aVal, bS, bA, AV.flat, AV.cl, AV.one, Value.oneCell', thenQ, blockQ, noGotoQ, ↓reduceIte, Nat.reduceEqDiff, reduceCtorEq, undef, aLen, ln22, List.length_map, aField, fo32_2, Nat.reduceAdd, tyX, ↓valAV_ty, hcs, hl3, hone, htk, mSome, mSetU]
      refine hC34 _ ?_
      try clear hC34 C34
      simp only [bL]
      refine aops_chunk 2 fun C35 hC35 => ?_
      simp only [bL, ↓aops, ↓aop, ↓aWant, ↓aVal, bS, bA, AV.flat, AV.cl, AV.one, Value.oneCell', thenQ, blockQ, noGotoQ, ↓reduceIte, Nat.reduceEqDiff, reduceCtorEq, undef, aLoad, ti22, getO, pack, Nat.reduceAdd, Nat.reduceLeDiff, aLen, ln22, List.length_map, tyX, ↓valAV_ty, hcs, hl3, hone, htk, mSome, mSetU]
      refine hC35 _ ?_
      try clear hC35 C35
      simp only [bL]
      simp only [↓aops, ↓aop, ↓aWant, ↓aVal, bS, bA, AV.flat, AV.cl, AV.one, Value.oneCell', thenQ, blockQ, noGotoQ, ↓reduceIte, Nat.reduceEqDiff, reduceCtorEq, bL, undef, aBin, aBool, tyX, ↓valAV_ty, hcs, hl3, hone, htk, mSome, mSetU]
      refine hK25 _ ?_
      try clear hK25 K25
      refine AWp_cond rfl (fun hb46 => ?_) (fun hb46 => ?_)
      · skip
        have hno : ¬ (T.k = U.k ∧ T.ps.length = U.ps.length) := fun h9 => by have := h9.2; simp at hb46; omega
        refine AWp_seqK fun K36 hK36 => ?_
        refine AWp_region ?_
        simp only [↓aops, ↓aop, ↓aWant, ↓aVal, bS, bA, AV.flat, AV.cl, AV.one, Value.oneCell', thenQ, blockQ, noGotoQ, ↓reduceIte, Nat.reduceEqDiff, reduceCtorEq, tyX, ↓valAV_ty, hcs, hl3, hone, htk, mSome, mSetU]
        refine hK36 _ ?_
        try clear hK36 K36
        refine AWp_ret ?_
        try simp only [thenQ, blockQ, noGotoQ, retQ, aRes, tupOf, bS, bA]
        have hg : T.match U m = (false, m) := Ty.match_no hk1 hno
        rw [hg]
        refine ⟨_, enumO 0 [.map (mC (m))], ⟨rfl, rfl⟩, .v _ _, mUnd (by omega) _, ?_, ?_, by omega⟩
        · refine Le.of_eq ?_
          rfl
        · first | (refine ⟨2, rfl, rfl⟩)
      · skip
        have hll : T.ps.length = U.ps.length := by simp at hb46; omega
        refine AWp_skip ?_
        try simp only [thenQ, blockQ, noGotoQ]
        refine hK24 _ ?_
        try clear hK24 K24
        refine AWp_seqK fun K37 hK37 => ?_
        refine AWp_seqK fun K38 hK38 => ?_
        refine AWp_region ?_
        refine aops_chunk 2 fun C39 hC39 => ?_
        simp only [bL, ↓aops, ↓aop, ↓aWant, ↓aVal, bS, bA, AV.flat, AV.cl, AV.one, Value.oneCell', thenQ, blockQ, noGotoQ, ↓reduceIte, Nat.reduceEqDiff, reduceCtorEq, aField, fo32_2, Nat.reduceAdd, aLoad, ti22, getO, pack, Nat.reduceLeDiff, tyX, ↓valAV_ty, hcs, hl3, hone, htk, mSome, mSetU]
        refine hC39 _ ?_
        try clear hC39 C39
        simp only [bL]
        simp only [↓aops, ↓aop, ↓aWant, ↓aVal, bS, bA, AV.flat, AV.cl, AV.one, Value.oneCell', thenQ, blockQ, noGotoQ, ↓reduceIte, Nat.reduceEqDiff, reduceCtorEq, aLen, ln22, List.length_map, tyX, ↓valAV_ty, hcs, hl3, hone, htk, mSome, mSetU]
        refine hK38 _ ?_
        try clear hK38 K38
        refine AWp_block ?_
        refine AWp_loopM (σ := Nat) [true, false, false, false, true, true, false, false, false, false, false, false, false, false, false, false, false, false, false, false, false, false, false, false, false, false, false, false, false, false, false, false, false, false, false, false, false, false, false, false, false, false, false, false, false, false, false, false, false, true, true, false, false, false, false, false, false, false, false, false, false, false, false, false, false, false, false] (fun s => s ≤ T.ps.length ∧ (Ty.matchL (T.ps.take s) (U.ps.take s) m).1 = true) (fun s => [(50, .v (.int .i64 (s : Int)))]) (fun s => [(0, .map (mC (Ty.matchL (T.ps.take s) (U.ps.take s) m).2))]) (fun s => T.ps.length - s) 0 (⟨by omega, by simp [Ty.matchL]⟩) ?_ (fun s hs => ?_)
        · skip
          simp only [maskL, setsL, putsO, putO, bA, Nat.reduceEqDiff, ↓reduceIte, bL, Ty.matchL]
          exact Weak.mk (by simp only [LeL, Le.refl, Le.any, Le.slNil, and_self, Int.natCast_add, Int.cast_ofNat_Int, Int.natCast_one]) (fun _ _ h => h) rfl rfl
        simp only [maskL, setsL, putsO, putO, bA, Nat.reduceEqDiff, ↓reduceIte]
        refine AWp_seqK fun K40 hK40 => ?_
        refine AWp_region ?_
        simp only [↓aops, ↓aop, ↓aWant, ↓aVal, bS, bA, AV.flat, AV.cl, AV.one, Value.oneCell', thenQ, blockQ, noGotoQ, ↓reduceIte, Nat.reduceEqDiff, reduceCtorEq, aBin, tyX, ↓valAV_ty, hcs, hl3, hone, htk, mSome, mSetU]
        refine hK40 _ ?_
        try clear hK40 K40
        refine AWp_seqK fun K41 hK41 => ?_
        refine AWp_cond rfl (fun hb51 => ?_) (fun hb51 => ?_)
        · skip
          have hk : s < T.ps.length := by simpa using hb51
          have hk2 : s < U.ps.length := by omega
          obtain ⟨p, hp⟩ : ∃ p, T.ps[s]? = some p := ⟨_, List.getElem?_eq_getElem hk⟩
          obtain ⟨q, hq⟩ : ∃ q, U.ps[s]? = some q := ⟨_, List.getElem?_eq_getElem hk2⟩
          have hst := Ty.matchL_step hp hq hll m hs.2
          have hw : IntKind.i64.wrap ((s : Int) + 1) = (s : Int) + 1 := wrap_in (by omega) (by simp only [maxLen] at hm2; omega)
          refine AWp_skip ?_
          try simp only [thenQ, blockQ, noGotoQ]
          refine hK41 _ ?_
          try clear hK41 K41
          refine AWp_seqK fun K42 hK42 => ?_
          refine AWp_block ?_
          refine AWp_seqK fun K43 hK43 => ?_
          refine AWp_region ?_
          simp only [↓aops, ↓aop, ↓aWant, ↓aVal, bS, bA, AV.flat, AV.cl, AV.one, Value.oneCell', thenQ, blockQ, noGotoQ, ↓reduceIte, Nat.reduceEqDiff, reduceCtorEq, tyX, ↓valAV_ty, hcs, hl3, hone, htk, mSome, mSetU, hk, hk2, getD_map_cells hp, getD_map_cells hq, Int.natCast_add, Int.natCast_one, hw, hst]
          refine hK43 _ ?_
          try clear hK43 K43
          refine AWp_seqK fun K44 hK44 => ?_
          refine AWp_drawK 11 mixed (by kernel_rfl) fun K45 hK45 => ?_
          simp only [bL]
          refine dRun_chunk 2 fun C46 hC46 => ?_
          simp only [bL, ↓dRun, ↓dOp, ↓aops, ↓aop, ↓aWant, ↓aVal, bS, bA, AV.flat, AV.cl, AV.one, Value.oneCell', thenQ, blockQ, noGotoQ, ↓reduceIte, Nat.reduceEqDiff, reduceCtorEq, aField, fo32_2, Nat.reduceAdd, tyX, ↓valAV_ty, hcs, hl3, hone, htk, mSome, mSetU, hk, hk2, getD_map_cells hp, getD_map_cells hq, Int.natCast_add, Int.natCast_one, hw, hst]
          refine hC46 _ ?_
          try clear hC46 C46
          simp only [bL]
          refine dRun_chunk 2 fun C47 hC47 => ?_
          simp only [bL, ↓dRun, ↓dOp, ↓aops, ↓aop, ↓aWant, ↓aVal, bS, bA, AV.flat, AV.cl, AV.one, Value.oneCell', thenQ, blockQ, noGotoQ, ↓reduceIte, Nat.reduceEqDiff, reduceCtorEq, aLoad, ti22, getO, pack, Nat.reduceAdd, Nat.reduceLeDiff, tyX, ↓valAV_ty, hcs, hl3, hone, htk, mSome, mSetU, hk, hk2, getD_map_cells hp, getD_map_cells hq, Int.natCast_add, Int.natCast_one, hw, hst]
          refine hC47 _ ?_
          try clear hC47 C47
          simp only [bL]
          refine dRun_chunk 2 fun C48 hC48 => ?_
          simp only [bL, ↓dRun, ↓dOp, ↓aops, ↓aop, ↓aWant, ↓aVal, bS, bA, AV.flat, AV.cl, AV.one, Value.oneCell', thenQ, blockQ, noGotoQ, ↓reduceIte, Nat.reduceEqDiff, reduceCtorEq, aIndexA, es22, Int.natCast_nonneg, Int.ofNat_lt, Int.toNat_natCast, List.length_map, Int.le_refl, Int.toNat_zero, Int.toNat_one, Int.reduceLE, aLoad, ti32, getO, pack, Nat.reduceAdd, Nat.reduceLeDiff, tyX, ↓valAV_ty, hcs, hl3, hone, htk, mSome, mSetU, hk, hk2, getD_map_cells hp, getD_map_cells hq, Int.natCast_add, Int.natCast_one, hw, hst]
          refine hC48 _ ?_
          try clear hC48 C48
          simp only [bL]
          refine dRun_chunk 2 fun C49 hC49 => ?_
          simp only [bL, ↓dRun, ↓dOp, ↓aops, ↓aop, ↓aWant, ↓aVal, bS, bA, AV.flat, AV.cl, AV.one, Value.oneCell', thenQ, blockQ, noGotoQ, ↓reduceIte, Nat.reduceEqDiff, reduceCtorEq, aField, fo32_2, Nat.reduceAdd, aLoad, ti22, getO, pack, Nat.reduceLeDiff, tyX, ↓valAV_ty, hcs, hl3, hone, htk, mSome, mSetU, hk, hk2, getD_map_cells hp, getD_map_cells hq, Int.natCast_add, Int.natCast_one, hw, hst]
          refine hC49 _ ?_
          try clear hC49 C49
          simp only [bL]
          refine dRun_chunk 2 fun C50 hC50 => ?_
          simp only [bL, ↓dRun, ↓dOp, ↓aops, ↓aop, ↓aWant, ↓aVal, bS, bA, AV.flat, AV.cl, AV.one, Value.oneCell', thenQ, blockQ, noGotoQ, ↓reduceIte, Nat.reduceEqDiff, reduceCtorEq, aIndexA, es22, Int.natCast_nonneg, Int.ofNat_lt, Int.toNat_natCast, List.length_map, Int.le_refl, Int.toNat_zero, Int.toNat_one, Int.reduceLE, tyX, ↓valAV_ty, hcs, hl3, hone, htk, mSome, mSetU, hk, hk2, getD_map_cells hp, getD_map_cells hq, Int.natCast_add, Int.natCast_one, hw, hst]
          refine hC50 _ ?_
          try clear hC50 C50
          simp only [bL]
          simp only [↓dRun, ↓dOp, bL, ↓aops, ↓aop, ↓aWant, ↓aVal, bS, bA, AV.flat, AV.cl, AV.one, Value.oneCell', thenQ, blockQ, noGotoQ, ↓reduceIte, Nat.reduceEqDiff, reduceCtorEq, aLoad, ti32, getO, pack, Nat.reduceAdd, Nat.reduceLeDiff, tyX, ↓valAV_ty, hcs, hl3, hone, htk, mSome, mSetU, hk, hk2, getD_map_cells hp, getD_map_cells hq, Int.natCast_add, Int.natCast_one, hw, hst]
          refine hK45 _ ?_
          try clear hK45 K45
          simp only [bL]
          refine aops_chunk 1 fun C51 hC51 => ?_
          simp only [bL, ↓aops, ↓aop, ↓aWant, ↓aVal, bS, bA, AV.flat, AV.cl, AV.one, Value.oneCell', thenQ, blockQ, noGotoQ, ↓reduceIte, Nat.reduceEqDiff, reduceCtorEq, aCallV, tyX, ↓valAV_ty, hcs, hl3, hone, htk, mSome, mSetU, hk, hk2, getD_map_cells hp, getD_map_cells hq, Int.natCast_add, Int.natCast_one, hw, hst]
          refine MCalls.at (ih p (List.mem_of_getElem? hp) q (Ty.matchL (T.ps.take s) (U.ps.take s) m).2) (.cons (Ty.dataAgg p) (.cons (Ty.dataAgg q) .nil)) (.v _) (i := 0) rfl (by first | omega | (simp only; omega)) ?_
          simp only [putO, Nat.reduceEqDiff, ↓reduceIte]
          try simp only [bS, bA, thenQ, blockQ, noGotoQ]
          refine hC51 _ ?_
          try clear hC51 C51
          simp only [bL]
          simp only [↓aops, ↓aop, ↓aWant, ↓aVal, bS, bA, AV.flat, AV.cl, AV.one, Value.oneCell', thenQ, blockQ, noGotoQ, ↓reduceIte, Nat.reduceEqDiff, reduceCtorEq, aUn, tyX, ↓valAV_ty, hcs, hl3, hone, htk, mSome, mSetU, hk, hk2, getD_map_cells hp, getD_map_cells hq, Int.natCast_add, Int.natCast_one, hw, hst]
          refine hK44 _ ?_
          try clear hK44 K44
          refine AWp_cond rfl (fun hb65 => ?_) (fun hb65 => ?_)
          · skip
            refine AWp_seqK fun K52 hK52 => ?_
            refine AWp_region ?_
            simp only [↓aops, ↓aop, ↓aWant, ↓aVal, bS, bA, AV.flat, AV.cl, AV.one, Value.oneCell', thenQ, blockQ, noGotoQ, ↓reduceIte, Nat.reduceEqDiff, reduceCtorEq, tyX, ↓valAV_ty, hcs, hl3, hone, htk, mSome, mSetU, hk, hk2, getD_map_cells hp, getD_map_cells hq, Int.natCast_add, Int.natCast_one, hw, hst]
            refine hK52 _ ?_
            try clear hK52 K52
            refine AWp_ret ?_
            try simp only [thenQ, blockQ, noGotoQ, retQ, aRes, tupOf, bS, bA]
            have hg : T.match U m = (false, (p.match q (Ty.matchL (T.ps.take s) (U.ps.take s) m).2).2) := by rw [Ty.match_more hk1 ⟨hkk, hll⟩]; exact Ty.matchL_stop hp hq hll m hs.2 (by simpa using hb65)
            rw [hg]
            refine ⟨_, enumO 0 [.map (mC ((p.match q (Ty.matchL (T.ps.take s) (U.ps.take s) m).2).2))], ⟨rfl, rfl⟩, .v _ _, mUnd (by omega) _, ?_, ?_, by omega⟩
            · refine Le.of_eq ?_
              rfl
            · first | (refine ⟨2, rfl, rfl⟩)
          · skip
            refine AWp_skip ?_
            try simp only [thenQ, blockQ, noGotoQ]
            refine hK42 _ ?_
            try clear hK42 K42
            refine AWp_region ?_
            simp only [↓aops, ↓aop, ↓aWant, ↓aVal, bS, bA, AV.flat, AV.cl, AV.one, Value.oneCell', thenQ, blockQ, noGotoQ, ↓reduceIte, Nat.reduceEqDiff, reduceCtorEq, aBin, tyX, ↓valAV_ty, hcs, hl3, hone, htk, mSome, mSetU, hk, hk2, getD_map_cells hp, getD_map_cells hq, Int.natCast_add, Int.natCast_one, hw, hst]
            refine ⟨(s + 1), ⟨by omega, by rw [hst]; simpa using hb65⟩, by omega, ?_⟩
            simp only [maskL, setsL, putsO, putO, bA, Nat.reduceEqDiff, ↓reduceIte, hk, hk2, getD_map_cells hp, getD_map_cells hq, Int.natCast_add, Int.natCast_one, hw, hst]
            exact Weak.mk (by simp only [LeL, Le.refl, Le.any, Le.slNil, and_self, Int.natCast_add, Int.cast_ofNat_Int, Int.natCast_one]) (fun _ _ h => h) rfl rfl
        · skip
          have hk : s = T.ps.length := by have := hs.1; simp at hb51; omega
          refine AWp_exit ?_
          simp only [thenQ, blockQ, noGotoQ, bA, Nat.reduceEqDiff, ↓reduceIte]
          refine hK37 _ ?_
          try clear hK37 K37
          refine AWp_seqK fun K53 hK53 => ?_
          refine AWp_region ?_
          simp only [↓aops, ↓aop, ↓aWant, ↓aVal, bS, bA, AV.flat, AV.cl, AV.one, Value.oneCell', thenQ, blockQ, noGotoQ, ↓reduceIte, Nat.reduceEqDiff, reduceCtorEq, tyX, ↓valAV_ty, hcs, hl3, hone, htk, mSome, mSetU]
          refine hK53 _ ?_
          try clear hK53 K53
          refine AWp_ret ?_
          try simp only [thenQ, blockQ, noGotoQ, retQ, aRes, tupOf, bS, bA]
          have h8 := hs.2
          rw [hk, List.take_length, hll, List.take_length] at h8
          have hg : T.match U m = (true, (Ty.matchL T.ps U.ps m).2) := by rw [Ty.match_more hk1 ⟨hkk, hll⟩]; exact Prod.ext h8 rfl
          rw [hg, hk, List.take_length, hll, List.take_length]
          refine ⟨_, enumO 0 [.map (mC ((Ty.matchL T.ps U.ps m).2))], ⟨rfl, rfl⟩, .v _ _, mUnd (by omega) _, ?_, ?_, by omega⟩
          · refine Le.of_eq ?_
            rfl
          · first | (refine ⟨2, rfl, rfl⟩)
end Go.Proofs.Ytohdoloalolpfaa
