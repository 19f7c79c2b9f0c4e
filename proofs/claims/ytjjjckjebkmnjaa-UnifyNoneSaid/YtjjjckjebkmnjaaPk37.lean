/- Texts of the abstract walk, of the contracts and of the plain laws, packed (part 37 of 41): Ur4 Un9. Conditions: none. -/
import Derived.Test.YtjjjckjebkmnjaaPk36
namespace Go.Proofs.Ytjjjckjebkmnjaa
open Go Go.RowKit
set_option maxRecDepth 100000
set_option maxHeartbeats 1000000
set_option linter.unusedSimpArgs false
set_option linter.unusedVariables false
attribute [local irreducible] aops dRun
def Ty.big (t : Ty) : Bool := decide (t.room 100 30 < 0)
theorem room12_pure : ∀ (T : Ty) (n : Int) (d : Nat) (hn : 0 ≤ n) (hn2 : n ≤ 1099511627776) (hd : d ≤ 1099511627776), APure Try.prog 68 [.agg T.cells, .v (.int .i64 n), .v (.int .i64 d)] (.v (.int .i64 (T.room n d))) := by
 refine Ty.ind fun T ih => ?_
 intro n d hn hn2 hd
 refine APure.mkL (.cons T.dataAgg (.cons (.v _) (.cons (.v _) .nil))) (.v _) ?_
 refine ACalls_intro Try.func68 (by kernel_rfl) rfl (by rw [Try.ntmps68]; simp) (fun hm => ?_)
 simp only [Try.ntmps68, Try.results68, List.length_cons, List.length_nil, Nat.reduceAdd, Nat.reduceSub, List.replicate_succ, List.replicate_zero, List.cons_append, List.nil_append]
 have hm1 := hm.wide (t := T) (by simp)
 have hw1 : IntKind.i64.wrap (n - 1) = n - 1 := wrap_in (by omega) (by omega)
 refine AWp_seqK fun K1 hK1 => ?_
 refine AWp_region ?_
 simp only [↓bO, bS, bA, bF, ↓reduceIte, Nat.reduceEqDiff, reduceCtorEq, tyX, hw1]
 refine hK1 _ ?_; try clear hK1 K1
 refine AWp_seqK fun K2 hK2 => ?_
 refine AWp_region ?_
 simp only [↓bO, bS, bA, bF, ↓reduceIte, Nat.reduceEqDiff, reduceCtorEq, aBin, tyX, hw1]
 refine hK2 _ ?_; try clear hK2 K2
 refine AWp_seqK fun K3 hK3 => ?_
 refine AWp_seqK fun K4 hK4 => ?_
 refine AWp_region ?_
 simp only [↓bO, bS, bA, bF, ↓reduceIte, Nat.reduceEqDiff, reduceCtorEq, aBin, tyX, hw1]
 refine hK4 _ ?_; try clear hK4 K4
 refine AWp_cond rfl (fun hb11 => ?_) (fun hb11 => ?_)
 ·
  have hd0 : d = 0 := by simpa using hb11
  refine AWp_seqK fun K5 hK5 => ?_
  refine AWp_region ?_
  simp only [↓bO, bS, bA, bF, ↓reduceIte, Nat.reduceEqDiff, reduceCtorEq, tyX, hw1]
  refine hK5 _ ?_; try clear hK5 K5
  refine AWp_ret ?_
  try simp only [bF, retQ, aRes, tupOf, bS, bA]
  refine Le.of_eq (congrArg (fun n => AV.v (.int .i64 n)) ?_)
  first | (rw [hd0, Ty.room_zero]; done) | skip
  all_goals (rw [Ty.room_succ]; simp only [decide_eq_false_iff_not] at hb20; rcases Nat.lt_or_ge s T.ps.length with h5 | h5 <;> first | (rw [List.take_of_length_le h5]; done) | (rw [Ty.roomL_stop T.ps s _ _ (by omega)]; done))
 ·
  obtain ⟨e, rfl⟩ : ∃ e, d = e + 1 := ⟨d - 1, by simp at hb11; omega⟩
  have hw2 : IntKind.i64.wrap ((e : Int) + 1 - 1) = (e : Int) := by rw [wrap_in (by omega) (by omega)]; omega
  refine AWp_skip ?_
  try simp only [bF]
  refine hK3 _ ?_; try clear hK3 K3
  refine AWp_seqK fun K6 hK6 => ?_
  refine AWp_seqK fun K7 hK7 => ?_
  refine AWp_region ?_
  simp only [↓bO, bS, bA, bF, ↓reduceIte, Nat.reduceEqDiff, reduceCtorEq, tyX, hw1]
  refine hK7 _ ?_; try clear hK7 K7
  refine AWp_block ?_
  refine AWp_loopM (σ := Nat) [false, true, true, true, false, false, false, true, false, false, false, false, false, false, false, false, false, false, false, false, false, false, false, false, false, false, false, false, false, false, false, false, false] (fun s => s ≤ T.ps.length) (fun s => [(1, .v (.int .i64 (Ty.roomL (T.ps.take s) (n - 1) e))), (7, .v (.int .i64 (s : Int)))]) (fun s => []) (fun s => T.ps.length - s) 0 (by omega) ?_ (fun s hs => ?_)
  ·
   simp only [maskL, setsL, putsO, putO, bA, Nat.reduceEqDiff, ↓reduceIte, bL, Ty.roomL]
   exact Weak.mk (by simp only [LeL, Le.refl, Le.any, Le.slNil, and_self, Int.natCast_add, Int.cast_ofNat_Int, Int.natCast_one]) (fun _ _ h => h) rfl rfl
  simp only [maskL, setsL, putsO, putO, bA, Nat.reduceEqDiff, ↓reduceIte]
  refine AWp_seqK fun K8 hK8 => ?_
  refine AWp_joinM [false, true, true, true, false, false, false, true, false, false, false, false, false, false, false, false, false, false, false, false, true, false, false, false, false, false, false, false, false, false, false, false, false] ([(20, .v (.bool (decide (s < T.ps.length ∧ 0 ≤ Ty.roomL (T.ps.take s) (n - 1) e))))]) ([]) ?_ ?_
  ·
   refine AWp_region ?_
   refine aops_chunk 4 fun C9 hC9 => ?_
   simp only [bL, ↓bO, bS, bA, bF, ↓reduceIte, Nat.reduceEqDiff, reduceCtorEq, aField, fo30_2, Nat.reduceAdd, aLoad, ti28, getO, pack, Nat.reduceLeDiff, aLenX, aLen, ln28, List.length_map, tyX, hw1]
   refine hC9 _ ?_; clear hC9 C9
   simp only [bL]
   refine aops_chunk 2 fun C10 hC10 => ?_
   simp only [bL, ↓bO, bS, bA, bF, ↓reduceIte, Nat.reduceEqDiff, reduceCtorEq, aBin, tyX, hw1]
   refine hC10 _ ?_; clear hC10 C10
   simp only [bL]
   refine aops_case 17 rfl (fun hc17 => ?_) (fun hc17 => ?_)
   ·
    simp only [List.set_cons_zero, List.set_cons_succ]
    simp only [↓bO, bS, bA, bF, ↓reduceIte, Nat.reduceEqDiff, reduceCtorEq, bL, undef, aBin, aBool, tyX, hw1]
    try simp only [maskL, setsL, putsO, putO, bA, Nat.reduceEqDiff, ↓reduceIte]
    refine Weak.mk ?_ (fun _ _ h => h) rfl rfl
    simp only [LeL, Le.refl, Le.any, and_self, and_true, true_and]
    all_goals (refine Le.of_eq (congrArg (fun b => AV.v (.bool b)) ?_); rw [Bool.eq_iff_iff]; simp only [decide_eq_true_eq, decide_eq_false_iff_not, ge_iff_le, Bool.false_eq_true, false_iff, Int.ofNat_lt] at *; omega)
   ·
    simp only [List.set_cons_zero, List.set_cons_succ]
    simp only [↓bO, bS, bA, bF, ↓reduceIte, Nat.reduceEqDiff, reduceCtorEq, bL, undef, aBin, aBool, tyX, hw1]
    try simp only [maskL, setsL, putsO, putO, bA, Nat.reduceEqDiff, ↓reduceIte]
    refine Weak.mk ?_ (fun _ _ h => h) rfl rfl
    simp only [LeL, Le.refl, Le.any, and_self, and_true, true_and]
    all_goals (refine Le.of_eq (congrArg (fun b => AV.v (.bool b)) ?_); rw [Bool.eq_iff_iff]; simp only [decide_eq_true_eq, decide_eq_false_iff_not, ge_iff_le, Bool.false_eq_true, false_iff, Int.ofNat_lt] at *; omega)
  simp only [maskL, setsL, putsO, putO, bA, Nat.reduceEqDiff, ↓reduceIte]
  refine AWp_cond rfl (fun hb20 => ?_) (fun hb20 => ?_)
  ·
   have hk : s < T.ps.length := by simp only [decide_eq_true_eq] at hb20; exact hb20.1
   obtain ⟨p, hp⟩ : ∃ p, T.ps[s]? = some p := ⟨_, List.getElem?_eq_getElem hk⟩
   have hw : IntKind.i64.wrap ((s : Int) + 1) = (s : Int) + 1 := wrap_in (by omega) (by have := hm1.len; simp only [maxLen] at this; omega)
   have hrm : 0 ≤ Ty.roomL (T.ps.take s) (n - 1) e := by simp only [decide_eq_true_eq] at hb20; exact hb20.2
   have hrl := Ty.roomL_le (T.ps.take s) (n - 1) e (by omega)
   refine AWp_skip ?_
   try simp only [bF]
   refine hK8 _ ?_; try clear hK8 K8
   refine AWp_seqK fun K11 hK11 => ?_
   refine AWp_block ?_
   refine AWp_region ?_
   refine aops_chunk 4 fun C12 hC12 => ?_
   simp only [bL, ↓bO, bS, bA, bF, ↓reduceIte, Nat.reduceEqDiff, reduceCtorEq, aField, fo30_2, Nat.reduceAdd, aLoad, ti28, getO, pack, Nat.reduceLeDiff, aIndexA, es28, Int.natCast_nonneg, Int.ofNat_lt, Int.toNat_natCast, List.length_map, Int.le_refl, Int.toNat_zero, Int.toNat_one, Int.reduceLE, tyX, hw1, hk, gM hp, Int.natCast_add, Int.natCast_one, hw, Ty.roomL_step hp (n - 1) e hrm, hw2]
   refine hC12 _ ?_; clear hC12 C12
   simp only [bL]
   refine aops_chunk 4 fun C13 hC13 => ?_
   simp only [bL, ↓bO, bS, bA, bF, ↓reduceIte, Nat.reduceEqDiff, reduceCtorEq, aLoad, ti30, getO, pack, Nat.reduceAdd, Nat.reduceLeDiff, aBin, tyX, hw1, hk, gM hp, Int.natCast_add, Int.natCast_one, hw, Ty.roomL_step hp (n - 1) e hrm, hw2]
   refine hC13 _ ?_; clear hC13 C13
   simp only [bL]
   refine aops_chunk 1 fun C14 hC14 => ?_
   simp only [bL, ↓bO, bS, bA, bF, ↓reduceIte, Nat.reduceEqDiff, reduceCtorEq, aCallV, tyX, hw1, hk, gM hp, Int.natCast_add, Int.natCast_one, hw, Ty.roomL_step hp (n - 1) e hrm, hw2]
   refine APure.call (ih p (List.mem_of_getElem? hp) _ e hrm (by omega) (by omega)) ?_
   try simp only [bS, bA, bF]
   refine hC14 _ ?_; clear hC14 C14
   simp only [bL]
   simp only [↓bO, bS, bA, bF, ↓reduceIte, Nat.reduceEqDiff, reduceCtorEq, tyX, hw1, hk, gM hp, Int.natCast_add, Int.natCast_one, hw, Ty.roomL_step hp (n - 1) e hrm, hw2]
   refine hK11 _ ?_; try clear hK11 K11
   refine AWp_region ?_
   simp only [↓bO, bS, bA, bF, ↓reduceIte, Nat.reduceEqDiff, reduceCtorEq, aBin, tyX, hw1, hk, gM hp, Int.natCast_add, Int.natCast_one, hw, Ty.roomL_step hp (n - 1) e hrm, hw2]
   refine ⟨(s + 1), (by omega), by omega, ?_⟩
   simp only [maskL, setsL, putsO, putO, bA, Nat.reduceEqDiff, ↓reduceIte, hk, gM hp, Int.natCast_add, Int.natCast_one, hw, Ty.roomL_step hp (n - 1) e hrm, hw2]
   exact Weak.mk (by simp only [LeL, Le.refl, Le.any, Le.slNil, and_self, Int.natCast_add, Int.cast_ofNat_Int, Int.natCast_one]) (fun _ _ h => h) rfl rfl
  ·
   refine AWp_exit ?_
   simp only [bF, bA, Nat.reduceEqDiff, ↓reduceIte]
   refine hK6 _ ?_; try clear hK6 K6
   refine AWp_seqK fun K15 hK15 => ?_
   refine AWp_region ?_
   simp only [↓bO, bS, bA, bF, ↓reduceIte, Nat.reduceEqDiff, reduceCtorEq, tyX, hw1]
   refine hK15 _ ?_; try clear hK15 K15
   refine AWp_ret ?_
   try simp only [bF, retQ, aRes, tupOf, bS, bA]
   refine Le.of_eq (congrArg (fun n => AV.v (.int .i64 n)) ?_)
   first | (rw [hd0, Ty.room_zero]; done) | skip
   all_goals (rw [Ty.room_succ]; simp only [decide_eq_false_iff_not] at hb20; rcases Nat.lt_or_ge s T.ps.length with h5 | h5 <;> first | (rw [List.take_of_length_le h5]; done) | (rw [Ty.roomL_stop T.ps s _ _ (by omega)]; done))
theorem big12_pure (T : Ty) : APure Try.prog 38 [.agg T.cells] (.v (.bool T.big)) := by
 refine APure.mkL (.cons T.dataAgg .nil) (.v _) ?_
 refine ACalls_intro Try.func38 (by kernel_rfl) rfl (by rw [Try.ntmps38]; simp) (fun hm => ?_)
 simp only [Try.ntmps38, Try.results38, List.length_cons, List.length_nil, Nat.reduceAdd, Nat.reduceSub, List.replicate_succ, List.replicate_zero, List.cons_append, List.nil_append]
 simp only [Ty.cells_eq T, List.cons_append, List.nil_append]
 refine AWp_seqK fun K1 hK1 => ?_
 refine AWp_region ?_
 simp only [↓bO, bS, bA, bF, ↓reduceIte, Nat.reduceEqDiff, reduceCtorEq]
 refine hK1 _ ?_; try clear hK1 K1
 refine AWp_seqK fun K2 hK2 => ?_
 refine AWp_region ?_
 refine aops_chunk 1 fun C3 hC3 => ?_
 simp only [bL, ↓bO, bS, bA, bF, ↓reduceIte, Nat.reduceEqDiff, reduceCtorEq, aLoad, ti30, getO, pack, Nat.reduceAdd, Nat.reduceLeDiff]
 refine hC3 _ ?_; clear hC3 C3
 simp only [bL]
 refine aops_chunk 1 fun C4 hC4 => ?_
 simp only [bL, ↓bO, bS, bA, bF, ↓reduceIte, Nat.reduceEqDiff, reduceCtorEq, aCallV]
 refine APure.call (by have h9 := room12_pure T 100 30 (by omega) (by omega) (by omega); rw [Ty.cells_eq T] at h9; exact h9) ?_
 try simp only [bS, bA, bF]
 refine hC4 _ ?_; clear hC4 C4
 simp only [bL]
 simp only [↓bO, bS, bA, bF, ↓reduceIte, Nat.reduceEqDiff, reduceCtorEq, aBin]
 refine hK2 _ ?_; try clear hK2 K2
 refine AWp_ret ?_
 try simp only [bF, retQ, aRes, tupOf, bS, bA]
 exact Le.of_eq (congrArg (fun b => AV.v (.bool b)) rfl)
end Go.Proofs.Ytjjjckjebkmnjaa
namespace Go.Proofs.Ytjjjckjebkmnjaa
open Go Go.RowKit
set_option maxRecDepth 100000
set_option maxHeartbeats 1000000
set_option linter.unusedSimpArgs false
set_option linter.unusedVariables false
attribute [local irreducible] aops dRun
theorem vGet (V : List (Int × Int)) (n : Int) : ((vfind V n).map fun i => AV.v (.int .i64 i)).getD (.v (.int .i64 0)) = .v (.int .i64 ((vfind V n).getD 0)) := by cases vfind V n <;> rfl
theorem vIs (V : List (Int × Int)) (n : Int) : ((vfind V n).map fun i => AV.v (.int .i64 i)).isSome = (vfind V n).isSome := by cases vfind V n <;> rfl
def nodeG (S : CS) (n : Int) : Int × Bool := if S.clash = true then (0, false) else ((vfind S.G.V n).getD 0, (vfind S.G.V n).isSome)
theorem nodeG_some {S : CS} {n : Int} (h : (nodeG S n).2 = true) : S.clash = false ∧ ∃ k, vfind S.G.V n = some k ∧ (nodeG S n).1 = k := by
  unfold nodeG at h ⊢
  split at h
  · cases h
  · rename_i hc
    rw [if_neg hc]
    refine ⟨by simpa using hc, ?_⟩
    cases hv : vfind S.G.V n with
    | none => rw [hv] at h; cases h
    | some k => exact ⟨k, rfl, rfl⟩
theorem nodeG_none {S : CS} {n : Int} (h : (nodeG S n).2 = false) : S.clash = true ∨ vfind S.G.V n = none := by
  unfold nodeG at h
  split at h
  · exact .inl (by assumption)
  · cases hv : vfind S.G.V n with
    | none => exact .inr rfl
    | some k => rw [hv] at h; cases h
theorem One.of_rt {up : List Nat} {a b r q : Nat} (ha : Rt up a r) (hb : Rt up b q) : One up a b ↔ r = q := by
  constructor
  · rintro (rfl | ⟨t, h1, h2⟩)
    · exact Rt.det ha hb
    · cases Rt.det ha h1
      exact (Rt.det hb h2).symm ▸ rfl
  · rintro rfl
    exact .inr ⟨r, ha, hb⟩
theorem GVar_calls (G : GS) (n : Int) : GCalls 66 [.ptr 0 0, .v (.int .i64 n)] (G.N) (G.V) (.tup [.v (.int .i64 ((vfind G.V n).getD 0)), .v (.bool (vfind G.V n).isSome)]) (G.N) (G.V) := by
 refine ACalls.clean (C := fun r os => r = _ ∧ os = _) ?_
 refine ACalls_intro Try.func66 (by kernel_rfl) rfl (by rw [Try.ntmps66]; simp) (fun hm => ?_)
 simp only [Try.ntmps66, Try.results66, List.length_cons, List.length_nil, Nat.reduceAdd, Nat.reduceSub, List.replicate_succ, List.replicate_zero, List.cons_append, List.nil_append]
 simp only [gObs, enumO, Nat.reduceAdd]
 refine AWp_seqK fun K1 hK1 => ?_
 refine AWp_region ?_
 refine aops_chunk 1 fun C2 hC2 => ?_
 simp only [bL, ↓bO, bS, bA, bF, ↓reduceIte, Nat.reduceEqDiff, reduceCtorEq, aFind_vC, vGet, vIs]
 refine hC2 _ ?_; clear hC2 C2
 simp only [bL]
 simp only [↓bO, bS, bA, bF, ↓reduceIte, Nat.reduceEqDiff, reduceCtorEq, aFind_vC, vGet, vIs]
 refine hK1 _ ?_; try clear hK1 K1
 refine AWp_seqK fun K3 hK3 => ?_
 refine AWp_seqK fun K4 hK4 => ?_
 refine AWp_region ?_
 refine aops_chunk 1 fun C5 hC5 => ?_
 simp only [bL, ↓bO, bS, bA, bF, ↓reduceIte, Nat.reduceEqDiff, reduceCtorEq, aFind_vC, vGet, vIs]
 refine hC5 _ ?_; clear hC5 C5
 simp only [bL]
 simp only [↓bO, bS, bA, bF, ↓reduceIte, Nat.reduceEqDiff, reduceCtorEq, aBin, pt84, aFind_vC, vGet, vIs]
 refine hK4 _ ?_; try clear hK4 K4
 refine AWp_cond rfl (fun hb9 => ?_) (fun hb9 => ?_)
 ·
  cases hb9
 ·
  refine AWp_skip ?_
  try simp only [bF]
  refine hK3 _ ?_; try clear hK3 K3
  refine AWp_seqK fun K6 hK6 => ?_
  refine AWp_region ?_
  refine aops_chunk 1 fun C7 hC7 => ?_
  simp only [bL, ↓bO, bS, bA, bF, ↓reduceIte, Nat.reduceEqDiff, reduceCtorEq, aFind_vC, vGet, vIs]
  refine hC7 _ ?_; clear hC7 C7
  simp only [bL]
  refine aops_chunk 1 fun C8 hC8 => ?_
  simp only [bL, ↓bO, bS, bA, bF, ↓reduceIte, Nat.reduceEqDiff, reduceCtorEq, aFind_vC, vGet, vIs]
  refine hC8 _ ?_; clear hC8 C8
  simp only [bL]
  refine aops_chunk 1 fun C9 hC9 => ?_
  simp only [bL, ↓bO, bS, bA, bF, ↓reduceIte, Nat.reduceEqDiff, reduceCtorEq, aField, fo118_1, Nat.reduceAdd, aFind_vC, vGet, vIs]
  refine hC9 _ ?_; clear hC9 C9
  simp only [bL]
  refine aops_chunk 1 fun C10 hC10 => ?_
  simp only [bL, ↓bO, bS, bA, bF, ↓reduceIte, Nat.reduceEqDiff, reduceCtorEq, aLoad, ti104, getO, pack, Nat.reduceAdd, Nat.reduceLeDiff, aFind_vC, vGet, vIs]
  refine hC10 _ ?_; clear hC10 C10
  simp only [bL]
  refine aops_chunk 1 fun C11 hC11 => ?_
  simp only [bL, ↓bO, bS, bA, bF, ↓reduceIte, Nat.reduceEqDiff, reduceCtorEq, aFind_vC, vGet, vIs]
  refine hC11 _ ?_; clear hC11 C11
  simp only [bL]
  refine aops_chunk 1 fun C12 hC12 => ?_
  simp only [bL, ↓bO, bS, bA, bF, ↓reduceIte, Nat.reduceEqDiff, reduceCtorEq, aLookup, mz104, getO, valAV, aFind_vC, vGet, vIs]
  refine hC12 _ ?_; clear hC12 C12
  simp only [bL]
  refine aops_chunk 1 fun C13 hC13 => ?_
  simp only [bL, ↓bO, bS, bA, bF, ↓reduceIte, Nat.reduceEqDiff, reduceCtorEq, aFind_vC, vGet, vIs]
  refine hC13 _ ?_; clear hC13 C13
  simp only [bL]
  refine aops_chunk 1 fun C14 hC14 => ?_
  simp only [bL, ↓bO, bS, bA, bF, ↓reduceIte, Nat.reduceEqDiff, reduceCtorEq, aExtract, Nat.reduceAdd, Nat.reduceLT, Nat.zero_lt_succ, aFind_vC, vGet, vIs]
  refine hC14 _ ?_; clear hC14 C14
  simp only [bL]
  refine aops_chunk 1 fun C15 hC15 => ?_
  simp only [bL, ↓bO, bS, bA, bF, ↓reduceIte, Nat.reduceEqDiff, reduceCtorEq, aExtract, Nat.reduceAdd, Nat.reduceLT, Nat.zero_lt_succ, aFind_vC, vGet, vIs]
  refine hC15 _ ?_; clear hC15 C15
  simp only [bL]
  refine aops_chunk 1 fun C16 hC16 => ?_
  simp only [bL, ↓bO, bS, bA, bF, ↓reduceIte, Nat.reduceEqDiff, reduceCtorEq, aFind_vC, vGet, vIs]
  refine hC16 _ ?_; clear hC16 C16
  simp only [bL]
  simp only [↓bO, bS, bA, bF, ↓reduceIte, Nat.reduceEqDiff, reduceCtorEq, aFind_vC, vGet, vIs]
  refine hK6 _ ?_; try clear hK6 K6
  refine AWp_seqK fun K17 hK17 => ?_
  refine AWp_region ?_
  refine aops_chunk 1 fun C18 hC18 => ?_
  simp only [bL, ↓bO, bS, bA, bF, ↓reduceIte, Nat.reduceEqDiff, reduceCtorEq, aFind_vC, vGet, vIs]
  refine hC18 _ ?_; clear hC18 C18
  simp only [bL]
  refine aops_chunk 1 fun C19 hC19 => ?_
  simp only [bL, ↓bO, bS, bA, bF, ↓reduceIte, Nat.reduceEqDiff, reduceCtorEq, aFind_vC, vGet, vIs]
  refine hC19 _ ?_; clear hC19 C19
  simp only [bL]
  refine aops_chunk 1 fun C20 hC20 => ?_
  simp only [bL, ↓bO, bS, bA, bF, ↓reduceIte, Nat.reduceEqDiff, reduceCtorEq, aFind_vC, vGet, vIs]
  refine hC20 _ ?_; clear hC20 C20
  simp only [bL]
  simp only [↓bO, bS, bA, bF, ↓reduceIte, Nat.reduceEqDiff, reduceCtorEq, aFind_vC, vGet, vIs]
  refine hK17 _ ?_; try clear hK17 K17
  refine AWp_ret ?_
  try simp only [bF, retQ, aRes, tupOf, bS, bA]
  refine ⟨_, enumO 0 (gObs (G.N) (G.V)), ⟨rfl, rfl⟩, .tup ⟨.v _ _, .v _ _, trivial⟩, gUnd (by omega) _ _, ?_, ?_, by omega⟩
  ·
   refine Le.of_eq ?_
   rfl
  · first | (refine ⟨0, ?_, rfl⟩; first | rfl | (simp only [gObs, enumO, List.drop_succ_cons, List.drop_zero, List.map_append, List.map_cons, List.map_nil, List.length_append, List.length_cons, List.length_nil, GNode.cells, List.take_length, Nat.reduceAdd, Nat.zero_add]; done))
theorem node_c (S : CS) (n : Int) : CCalls (σ := Int × Bool) 59 [.ptr 0 0, .v (.int .i64 n)] (S) (fun s => s.1 = S ∧ s.2 = nodeG S n) (fun s => .tup [.v (.int .i64 s.1), .v (.bool s.2)]) := by
 refine ACalls.clean (C := fun r os => ∃ s : CS × Int × Bool, (s.1 = S ∧ s.2 = nodeG S n) ∧ r = (fun s : Int × Bool => .tup [.v (.int .i64 s.1), .v (.bool s.2)]) s.2 ∧ os = enumO 0 (cObs s.1)) ?_
 refine ACalls_intro Try.func59 (by kernel_rfl) rfl (by rw [Try.ntmps59]; simp) (fun hm => ?_)
 simp only [Try.ntmps59, Try.results59, List.length_cons, List.length_nil, Nat.reduceAdd, Nat.reduceSub, List.replicate_succ, List.replicate_zero, List.cons_append, List.nil_append]
 simp only [cObs, enumO, Nat.reduceAdd]
 refine AWp_seqK fun K1 hK1 => ?_
 refine AWp_region ?_
 simp only [↓bO, bS, bA, bF, ↓reduceIte, Nat.reduceEqDiff, reduceCtorEq, List.length_map, bL, Nat.reduceAdd, Nat.reduceLeDiff, Int.toNat_natCast, Int.natCast_nonneg]
 refine hK1 _ ?_; try clear hK1 K1
 refine AWp_seqK fun K2 hK2 => ?_
 refine AWp_seqK fun K3 hK3 => ?_
 refine AWp_region ?_
 refine aops_chunk 1 fun C4 hC4 => ?_
 simp only [bL, ↓bO, bS, bA, bF, ↓reduceIte, Nat.reduceEqDiff, reduceCtorEq, List.length_map, Nat.reduceAdd, Nat.reduceLeDiff, Int.toNat_natCast, Int.natCast_nonneg]
 refine hC4 _ ?_; clear hC4 C4
 simp only [bL]
 refine aops_chunk 1 fun C5 hC5 => ?_
 simp only [bL, ↓bO, bS, bA, bF, ↓reduceIte, Nat.reduceEqDiff, reduceCtorEq, aCallV, List.length_map, Nat.reduceAdd, Nat.reduceLeDiff, Int.toNat_natCast, Int.natCast_nonneg]
 refine CCalls.at (Err_c S) (.nil) (fun _ => .v _) (i0 := 0) (i1 := 1) (i2 := 2) (i3 := 3) (i4 := 4) (i5 := 5) (i6 := 6) (i7 := 7) (by decide) (by simp) ⟨rfl, rfl, rfl, rfl, rfl, rfl, rfl, rfl, trivial⟩ (fun Z9 u9 hZ9 => ?_)
 try dsimp only at hZ9
 simp only [cObsAt, List.zip_cons_cons, List.zip_nil_left, List.zip_nil_right, putsO, putO, Nat.reduceEqDiff, ↓reduceIte]
 obtain rfl : S = Z9 := hZ9.symm
 try simp only [bS, bA, bF]
 refine hC5 _ ?_; clear hC5 C5
 simp only [bL]
 simp only [↓bO, bS, bA, bF, ↓reduceIte, Nat.reduceEqDiff, reduceCtorEq, aBin, List.length_map, bL, Nat.reduceAdd, Nat.reduceLeDiff, Int.toNat_natCast, Int.natCast_nonneg]
 refine hK3 _ ?_; try clear hK3 K3
 refine AWp_cond rfl (fun hb8 => ?_) (fun hb8 => ?_)
 ·
  have hcs : S.clash = true := by (have h9 := hb8; cases hc : S.clash <;> simp [hc] at h9 ⊢)
  refine AWp_seqK fun K6 hK6 => ?_
  refine AWp_region ?_
  simp only [↓bO, bS, bA, bF, ↓reduceIte, Nat.reduceEqDiff, reduceCtorEq, List.length_map, bL, Nat.reduceAdd, Nat.reduceLeDiff, Int.toNat_natCast, Int.natCast_nonneg]
  refine hK6 _ ?_; try clear hK6 K6
  refine AWp_ret ?_
  try simp only [bF, retQ, aRes, tupOf, bS, bA]
  refine ⟨_, enumO 0 (cObs (S)), ⟨(S, (0, false)), ?_, rfl, rfl⟩, .tup ⟨.v _ _, .v _ _, trivial⟩, cUnd (by omega) _, ?_, ?_, by omega⟩
  · exact ⟨rfl, by rw [nodeG, hcs]; rfl⟩
  ·
   exact Le.refl _
  · first | (refine ⟨0, rfl, rfl⟩) | (refine ⟨0, by simp only [cObs, enumO, List.drop_zero, List.drop_succ_cons, Nat.reduceAdd], rfl⟩)
 ·
  have hcs : S.clash = false := by (have h9 := hb8; cases hc : S.clash <;> simp [hc] at h9 ⊢)
  refine AWp_skip ?_
  try simp only [bF]
  refine hK2 _ ?_; try clear hK2 K2
  refine AWp_seqK fun K7 hK7 => ?_
  refine AWp_region ?_
  refine aops_chunk 4 fun C8 hC8 => ?_
  simp only [bL, ↓bO, bS, bA, bF, ↓reduceIte, Nat.reduceEqDiff, reduceCtorEq, aField, fo89_1, Nat.reduceAdd, aLoad, ti84, getO, pack, Nat.reduceLeDiff, List.length_map, Int.toNat_natCast, Int.natCast_nonneg]
  refine hC8 _ ?_; clear hC8 C8
  simp only [bL]
  refine aops_chunk 1 fun C9 hC9 => ?_
  simp only [bL, ↓bO, bS, bA, bF, ↓reduceIte, Nat.reduceEqDiff, reduceCtorEq, List.length_map, Nat.reduceAdd, Nat.reduceLeDiff, Int.toNat_natCast, Int.natCast_nonneg]
  refine hC9 _ ?_; clear hC9 C9
  simp only [bL]
  refine aops_chunk 1 fun C10 hC10 => ?_
  simp only [bL, ↓bO, bS, bA, bF, ↓reduceIte, Nat.reduceEqDiff, reduceCtorEq, aCallV, List.length_map, Nat.reduceAdd, Nat.reduceLeDiff, Int.toNat_natCast, Int.natCast_nonneg]
  refine GCalls.at (GVar_calls S.G n) (.cons (.v _) .nil) (.tup (.cons (.v _) (.cons (.v _) .nil))) (i := 1) (j := 2) (k := 3) rfl rfl rfl (by decide) (by decide) (by decide) (by first | omega | (simp only; omega)) (by first | omega | (simp only; omega)) (by first | omega | (simp only; omega)) ?_
  simp only [putO, Nat.reduceEqDiff, ↓reduceIte]
  try simp only [bS, bA, bF]
  refine hC10 _ ?_; clear hC10 C10
  simp only [bL]
  simp only [↓bO, bS, bA, bF, ↓reduceIte, Nat.reduceEqDiff, reduceCtorEq, aExtract, bL, Nat.reduceAdd, Nat.reduceLT, Nat.zero_lt_succ, List.length_map, Nat.reduceLeDiff, Int.toNat_natCast, Int.natCast_nonneg]
  refine hK7 _ ?_; try clear hK7 K7
  refine AWp_ret ?_
  try simp only [bF, retQ, aRes, tupOf, bS, bA]
  refine ⟨_, enumO 0 (cObs (S)), ⟨(S, ((vfind S.G.V n).getD 0, (vfind S.G.V n).isSome)), ?_, rfl, rfl⟩, .tup ⟨.v _ _, .v _ _, trivial⟩, cUnd (by omega) _, ?_, ?_, by omega⟩
  · exact ⟨rfl, by rw [nodeG, hcs]; rfl⟩
  ·
   exact Le.refl _
  · first | (refine ⟨0, rfl, rfl⟩) | (refine ⟨0, by simp only [cObs, enumO, List.drop_zero, List.drop_succ_cons, Nat.reduceAdd], rfl⟩)
theorem FSm_f (F : FS) (hF : FInv F) (a b : Nat) (ha : a < F.up.length) (hb : b < F.up.length) : FCalls (σ := Bool) 62 [.ptr 0 0, .v (.int .i64 (a : Int)), .v (.int .i64 (b : Int))] (F) (fun s => FSame F s.1 ∧ (s.2 = true ↔ One F.up a b)) (fun s => .v (.bool s)) := by
 refine ACalls.clean (C := fun r os => ∃ s : FS × Bool, (FSame F s.1 ∧ (s.2 = true ↔ One F.up a b)) ∧ r = (fun s : Bool => .v (.bool s)) s.2 ∧ os = enumO 0 (fObs s.1)) ?_
 refine ACalls_intro Try.func62 (by kernel_rfl) rfl (by rw [Try.ntmps62]; simp) (fun hm => ?_)
 simp only [Try.ntmps62, Try.results62, List.length_cons, List.length_nil, Nat.reduceAdd, Nat.reduceSub, List.replicate_succ, List.replicate_zero, List.cons_append, List.nil_append]
 simp only [fObs, enumO, Nat.reduceAdd]
 refine AWp_seqK fun K1 hK1 => ?_
 refine AWp_region ?_
 simp only [↓bO, bS, bA, bF, ↓reduceIte, Nat.reduceEqDiff, reduceCtorEq, List.length_map, bL, Nat.reduceAdd, Nat.reduceLeDiff, Int.toNat_natCast, Int.natCast_nonneg]
 refine hK1 _ ?_; try clear hK1 K1
 refine AWp_seqK fun K2 hK2 => ?_
 refine AWp_region ?_
 refine aops_chunk 1 fun C3 hC3 => ?_
 simp only [bL, ↓bO, bS, bA, bF, ↓reduceIte, Nat.reduceEqDiff, reduceCtorEq, List.length_map, Nat.reduceAdd, Nat.reduceLeDiff, Int.toNat_natCast, Int.natCast_nonneg]
 refine hC3 _ ?_; clear hC3 C3
 simp only [bL]
 refine aops_chunk 1 fun C4 hC4 => ?_
 simp only [bL, ↓bO, bS, bA, bF, ↓reduceIte, Nat.reduceEqDiff, reduceCtorEq, List.length_map, Nat.reduceAdd, Nat.reduceLeDiff, Int.toNat_natCast, Int.natCast_nonneg]
 refine hC4 _ ?_; clear hC4 C4
 simp only [bL]
 refine aops_chunk 1 fun C5 hC5 => ?_
 simp only [bL, ↓bO, bS, bA, bF, ↓reduceIte, Nat.reduceEqDiff, reduceCtorEq, aCallV, List.length_map, Nat.reduceAdd, Nat.reduceLeDiff, Int.toNat_natCast, Int.natCast_nonneg]
 refine FCalls.at (there_f F (a : Int)) (.cons (.v _) .nil) (fun _ => .v _) (i := 0) (j := 1) (k := 2) rfl rfl rfl (by decide) (by decide) (by decide) (by first | omega | (simp only; omega)) (by first | omega | (simp only; omega)) (by first | omega | (simp only; omega)) (fun G0 u0 hG0 => ?_)
 try dsimp only at hG0
 simp only [putO, Nat.reduceEqDiff, ↓reduceIte]
 obtain rfl : F = G0 := hG0.symm
 try simp only [bS, bA, bF]
 refine hC5 _ ?_; clear hC5 C5
 simp only [bL]
 refine aops_chunk 1 fun C6 hC6 => ?_
 simp only [bL, ↓bO, bS, bA, bF, ↓reduceIte, Nat.reduceEqDiff, reduceCtorEq, List.length_map, Nat.reduceAdd, Nat.reduceLeDiff, Int.toNat_natCast, Int.natCast_nonneg]
 refine hC6 _ ?_; clear hC6 C6
 simp only [bL]
 refine aops_case 10 rfl (fun hc10 => ?_) (fun hc10 => ?_)
 ·
  simp only [List.set_cons_zero, List.set_cons_succ]
  refine aops_chunk 1 fun C7 hC7 => ?_
  simp only [bL, ↓bO, bS, bA, bF, ↓reduceIte, Nat.reduceEqDiff, reduceCtorEq, undef, List.length_map, Nat.reduceAdd, Nat.reduceLeDiff, Int.toNat_natCast, Int.natCast_nonneg]
  refine hC7 _ ?_; clear hC7 C7
  simp only [bL]
  refine aops_chunk 1 fun C8 hC8 => ?_
  simp only [bL, ↓bO, bS, bA, bF, ↓reduceIte, Nat.reduceEqDiff, reduceCtorEq, undef, List.length_map, Nat.reduceAdd, Nat.reduceLeDiff, Int.toNat_natCast, Int.natCast_nonneg]
  refine hC8 _ ?_; clear hC8 C8
  simp only [bL]
  refine aops_chunk 1 fun C9 hC9 => ?_
  simp only [bL, ↓bO, bS, bA, bF, ↓reduceIte, Nat.reduceEqDiff, reduceCtorEq, undef, aCallV, List.length_map, Nat.reduceAdd, Nat.reduceLeDiff, Int.toNat_natCast, Int.natCast_nonneg]
  refine FCalls.at (there_f F (b : Int)) (.cons (.v _) .nil) (fun _ => .v _) (i := 0) (j := 1) (k := 2) rfl rfl rfl (by decide) (by decide) (by decide) (by first | omega | (simp only; omega)) (by first | omega | (simp only; omega)) (by first | omega | (simp only; omega)) (fun G0 u0 hG0 => ?_)
  try dsimp only at hG0
  simp only [putO, Nat.reduceEqDiff, ↓reduceIte]
  obtain rfl : F = G0 := hG0.symm
  try simp only [bS, bA, bF]
  refine hC9 _ ?_; clear hC9 C9
  simp only [bL]
  refine aops_chunk 1 fun C10 hC10 => ?_
  simp only [bL, ↓bO, bS, bA, bF, ↓reduceIte, Nat.reduceEqDiff, reduceCtorEq, aBool, List.length_map, Nat.reduceAdd, Nat.reduceLeDiff, Int.toNat_natCast, Int.natCast_nonneg]
  refine hC10 _ ?_; clear hC10 C10
  simp only [bL]
  refine aops_chunk 1 fun C11 hC11 => ?_
  simp only [bL, ↓bO, bS, bA, bF, ↓reduceIte, Nat.reduceEqDiff, reduceCtorEq, List.length_map, Nat.reduceAdd, Nat.reduceLeDiff, Int.toNat_natCast, Int.natCast_nonneg]
  refine hC11 _ ?_; clear hC11 C11
  simp only [bL]
  refine aops_case 15 rfl (fun hc15 => ?_) (fun hc15 => ?_)
  ·
   simp only [List.set_cons_zero, List.set_cons_succ]
   refine aops_chunk 1 fun C12 hC12 => ?_
   simp only [bL, ↓bO, bS, bA, bF, ↓reduceIte, Nat.reduceEqDiff, reduceCtorEq, undef, List.length_map, Nat.reduceAdd, Nat.reduceLeDiff, Int.toNat_natCast, Int.natCast_nonneg]
   refine hC12 _ ?_; clear hC12 C12
   simp only [bL]
   refine aops_chunk 1 fun C13 hC13 => ?_
   simp only [bL, ↓bO, bS, bA, bF, ↓reduceIte, Nat.reduceEqDiff, reduceCtorEq, undef, List.length_map, Nat.reduceAdd, Nat.reduceLeDiff, Int.toNat_natCast, Int.natCast_nonneg]
   refine hC13 _ ?_; clear hC13 C13
   simp only [bL]
   refine aops_chunk 1 fun C14 hC14 => ?_
   simp only [bL, ↓bO, bS, bA, bF, ↓reduceIte, Nat.reduceEqDiff, reduceCtorEq, undef, aCallV, List.length_map, Nat.reduceAdd, Nat.reduceLeDiff, Int.toNat_natCast, Int.natCast_nonneg]
   refine FCalls.at (find_f F hF a ha) (.cons (.v _) .nil) (fun _ => .v _) (i := 0) (j := 1) (k := 2) rfl rfl rfl (by decide) (by decide) (by decide) (by first | omega | (simp only; omega)) (by first | omega | (simp only; omega)) (by first | omega | (simp only; omega)) (fun G1 r1 hG1 => ?_)
   try dsimp only at hG1
   simp only [putO, Nat.reduceEqDiff, ↓reduceIte]
   try simp only [bS, bA, bF]
   refine hC14 _ ?_; clear hC14 C14
   simp only [bL]
   refine aops_chunk 1 fun C15 hC15 => ?_
   simp only [bL, ↓bO, bS, bA, bF, ↓reduceIte, Nat.reduceEqDiff, reduceCtorEq, undef, List.length_map, Nat.reduceAdd, Nat.reduceLeDiff, Int.toNat_natCast, Int.natCast_nonneg]
   refine hC15 _ ?_; clear hC15 C15
   simp only [bL]
   refine aops_chunk 1 fun C16 hC16 => ?_
   simp only [bL, ↓bO, bS, bA, bF, ↓reduceIte, Nat.reduceEqDiff, reduceCtorEq, undef, List.length_map, Nat.reduceAdd, Nat.reduceLeDiff, Int.toNat_natCast, Int.natCast_nonneg]
   refine hC16 _ ?_; clear hC16 C16
   simp only [bL]
   refine aops_chunk 1 fun C17 hC17 => ?_
   simp only [bL, ↓bO, bS, bA, bF, ↓reduceIte, Nat.reduceEqDiff, reduceCtorEq, undef, aCallV, List.length_map, Nat.reduceAdd, Nat.reduceLeDiff, Int.toNat_natCast, Int.natCast_nonneg]
   refine FCalls.at (find_f G1 hG1.1.inv b (by rw [hG1.1.len]; exact hb)) (.cons (.v _) .nil) (fun _ => .v _) (i := 0) (j := 1) (k := 2) rfl rfl rfl (by decide) (by decide) (by decide) (by first | omega | (simp only; omega)) (by first | omega | (simp only; omega)) (by first | omega | (simp only; omega)) (fun G2 r2 hG2 => ?_)
   try dsimp only at hG2
   simp only [putO, Nat.reduceEqDiff, ↓reduceIte]
   try simp only [bS, bA, bF]
   refine hC17 _ ?_; clear hC17 C17
   simp only [bL]
   refine aops_chunk 1 fun C18 hC18 => ?_
   simp only [bL, ↓bO, bS, bA, bF, ↓reduceIte, Nat.reduceEqDiff, reduceCtorEq, undef, aBin, List.length_map, Nat.reduceAdd, Nat.reduceLeDiff, Int.toNat_natCast, Int.natCast_nonneg]
   refine hC18 _ ?_; clear hC18 C18
   simp only [bL]
   refine aops_chunk 1 fun C19 hC19 => ?_
   simp only [bL, ↓bO, bS, bA, bF, ↓reduceIte, Nat.reduceEqDiff, reduceCtorEq, aBool, List.length_map, Nat.reduceAdd, Nat.reduceLeDiff, Int.toNat_natCast, Int.natCast_nonneg]
   refine hC19 _ ?_; clear hC19 C19
   simp only [bL]
   simp only [↓bO, bS, bA, bF, ↓reduceIte, Nat.reduceEqDiff, reduceCtorEq, List.length_map, bL, Nat.reduceAdd, Nat.reduceLeDiff, Int.toNat_natCast, Int.natCast_nonneg]
   refine hK2 _ ?_; try clear hK2 K2
   refine AWp_ret ?_
   try simp only [bF, retQ, aRes, tupOf, bS, bA]
   refine ⟨_, enumO 0 (fObs (G2)), ⟨(G2, ((r1 : Int) == (r2 : Int))), ?_, rfl, rfl⟩, .v _ _, fUnd (by omega) _, ?_, ?_, by omega⟩
   · exact ⟨hG1.1.trans hG2.1, by rw [One.of_rt hG1.2 ((hG1.1.rt _ _).1 hG2.2), beq_iff_eq]; omega⟩
   ·
    exact Le.refl _
   · first | (refine ⟨0, rfl, rfl⟩) | (refine ⟨0, by simp only [fObs, enumO, List.drop_zero, List.drop_succ_cons, Nat.reduceAdd], rfl⟩)
  ·
   simp only [List.set_cons_zero, List.set_cons_succ]
   exact absurd hc15 (by simp; omega)
 ·
  simp only [List.set_cons_zero, List.set_cons_succ]
  exact absurd hc10 (by simp; omega)
theorem CSame_c (S : CS) (hF : FInv S.F) (hv : ∀ n k, vfind S.G.V n = some k → 0 ≤ k ∧ k < (S.F.up.length : Int)) (a b : Int) : CCalls (σ := Bool) 24 [.ptr 0 0, .v (.int .i64 a), .v (.int .i64 b)] (S) (fun s => FSame S.F s.1.F ∧ s.1 = { S with F := s.1.F } ∧ (s.2 = true ↔ S.clash = false ∧ ∃ i k, vfind S.G.V a = some i ∧ vfind S.G.V b = some k ∧ One S.F.up i.toNat k.toNat)) (fun s => .v (.bool s)) := by
 refine ACalls.clean (C := fun r os => ∃ s : CS × Bool, (FSame S.F s.1.F ∧ s.1 = { S with F := s.1.F } ∧ (s.2 = true ↔ S.clash = false ∧ ∃ i k, vfind S.G.V a = some i ∧ vfind S.G.V b = some k ∧ One S.F.up i.toNat k.toNat)) ∧ r = (fun s : Bool => .v (.bool s)) s.2 ∧ os = enumO 0 (cObs s.1)) ?_
 refine ACalls_intro Try.func24 (by kernel_rfl) rfl (by rw [Try.ntmps24]; simp) (fun hm => ?_)
 simp only [Try.ntmps24, Try.results24, List.length_cons, List.length_nil, Nat.reduceAdd, Nat.reduceSub, List.replicate_succ, List.replicate_zero, List.cons_append, List.nil_append]
 simp only [cObs, enumO, Nat.reduceAdd]
 refine AWp_seqK fun K1 hK1 => ?_
 refine AWp_region ?_
 simp only [↓bO, bS, bA, bF, ↓reduceIte, Nat.reduceEqDiff, reduceCtorEq, List.length_map, bL, Nat.reduceAdd, Nat.reduceLeDiff, Int.toNat_natCast, Int.natCast_nonneg]
 refine hK1 _ ?_; try clear hK1 K1
 refine AWp_seqK fun K2 hK2 => ?_
 refine AWp_region ?_
 refine aops_chunk 1 fun C3 hC3 => ?_
 simp only [bL, ↓bO, bS, bA, bF, ↓reduceIte, Nat.reduceEqDiff, reduceCtorEq, List.length_map, Nat.reduceAdd, Nat.reduceLeDiff, Int.toNat_natCast, Int.natCast_nonneg]
 refine hC3 _ ?_; clear hC3 C3
 simp only [bL]
 refine aops_chunk 1 fun C4 hC4 => ?_
 simp only [bL, ↓bO, bS, bA, bF, ↓reduceIte, Nat.reduceEqDiff, reduceCtorEq, List.length_map, Nat.reduceAdd, Nat.reduceLeDiff, Int.toNat_natCast, Int.natCast_nonneg]
 refine hC4 _ ?_; clear hC4 C4
 simp only [bL]
 refine aops_chunk 1 fun C5 hC5 => ?_
 simp only [bL, ↓bO, bS, bA, bF, ↓reduceIte, Nat.reduceEqDiff, reduceCtorEq, aCallV, List.length_map, Nat.reduceAdd, Nat.reduceLeDiff, Int.toNat_natCast, Int.natCast_nonneg]
 refine CCalls.at (node_c S a) (.cons (.v _) .nil) (fun _ => .tup (.cons (.v _) (.cons (.v _) .nil))) (i0 := 0) (i1 := 1) (i2 := 2) (i3 := 3) (i4 := 4) (i5 := 5) (i6 := 6) (i7 := 7) (by decide) (by simp) ⟨rfl, rfl, rfl, rfl, rfl, rfl, rfl, rfl, trivial⟩ (fun Z9 u9 hZ9 => ?_)
 try dsimp only at hZ9
 simp only [cObsAt, List.zip_cons_cons, List.zip_nil_left, List.zip_nil_right, putsO, putO, Nat.reduceEqDiff, ↓reduceIte]
 obtain ⟨hZ, rfl⟩ := hZ9
 obtain rfl : S = Z9 := hZ.symm
 try simp only [bS, bA, bF]
 refine hC5 _ ?_; clear hC5 C5
 simp only [bL]
 refine aops_chunk 1 fun C6 hC6 => ?_
 simp only [bL, ↓bO, bS, bA, bF, ↓reduceIte, Nat.reduceEqDiff, reduceCtorEq, List.length_map, Nat.reduceAdd, Nat.reduceLeDiff, Int.toNat_natCast, Int.natCast_nonneg]
 refine hC6 _ ?_; clear hC6 C6
 simp only [bL]
 refine aops_chunk 1 fun C7 hC7 => ?_
 simp only [bL, ↓bO, bS, bA, bF, ↓reduceIte, Nat.reduceEqDiff, reduceCtorEq, aExtract, Nat.reduceAdd, Nat.reduceLT, Nat.zero_lt_succ, List.length_map, Nat.reduceLeDiff, Int.toNat_natCast, Int.natCast_nonneg]
 refine hC7 _ ?_; clear hC7 C7
 simp only [bL]
 refine aops_chunk 1 fun C8 hC8 => ?_
 simp only [bL, ↓bO, bS, bA, bF, ↓reduceIte, Nat.reduceEqDiff, reduceCtorEq, aExtract, Nat.reduceAdd, Nat.reduceLT, Nat.zero_lt_succ, List.length_map, Nat.reduceLeDiff, Int.toNat_natCast, Int.natCast_nonneg]
 refine hC8 _ ?_; clear hC8 C8
 simp only [bL]
 refine aops_chunk 1 fun C9 hC9 => ?_
 simp only [bL, ↓bO, bS, bA, bF, ↓reduceIte, Nat.reduceEqDiff, reduceCtorEq, List.length_map, Nat.reduceAdd, Nat.reduceLeDiff, Int.toNat_natCast, Int.natCast_nonneg]
 refine hC9 _ ?_; clear hC9 C9
 simp only [bL]
 simp only [↓bO, bS, bA, bF, ↓reduceIte, Nat.reduceEqDiff, reduceCtorEq, List.length_map, bL, Nat.reduceAdd, Nat.reduceLeDiff, Int.toNat_natCast, Int.natCast_nonneg]
 refine hK2 _ ?_; try clear hK2 K2
 refine AWp_seqK fun K10 hK10 => ?_
 refine AWp_region ?_
 refine aops_chunk 1 fun C11 hC11 => ?_
 simp only [bL, ↓bO, bS, bA, bF, ↓reduceIte, Nat.reduceEqDiff, reduceCtorEq, List.length_map, Nat.reduceAdd, Nat.reduceLeDiff, Int.toNat_natCast, Int.natCast_nonneg]
 refine hC11 _ ?_; clear hC11 C11
 simp only [bL]
 refine aops_chunk 1 fun C12 hC12 => ?_
 simp only [bL, ↓bO, bS, bA, bF, ↓reduceIte, Nat.reduceEqDiff, reduceCtorEq, List.length_map, Nat.reduceAdd, Nat.reduceLeDiff, Int.toNat_natCast, Int.natCast_nonneg]
 refine hC12 _ ?_; clear hC12 C12
 simp only [bL]
 refine aops_chunk 1 fun C13 hC13 => ?_
 simp only [bL, ↓bO, bS, bA, bF, ↓reduceIte, Nat.reduceEqDiff, reduceCtorEq, aCallV, List.length_map, Nat.reduceAdd, Nat.reduceLeDiff, Int.toNat_natCast, Int.natCast_nonneg]
 refine CCalls.at (node_c S b) (.cons (.v _) .nil) (fun _ => .tup (.cons (.v _) (.cons (.v _) .nil))) (i0 := 0) (i1 := 1) (i2 := 2) (i3 := 3) (i4 := 4) (i5 := 5) (i6 := 6) (i7 := 7) (by decide) (by simp) ⟨rfl, rfl, rfl, rfl, rfl, rfl, rfl, rfl, trivial⟩ (fun Z9 z9 hZ8 => ?_)
 try dsimp only at hZ8
 simp only [cObsAt, List.zip_cons_cons, List.zip_nil_left, List.zip_nil_right, putsO, putO, Nat.reduceEqDiff, ↓reduceIte]
 obtain ⟨hZ, rfl⟩ := hZ8
 obtain rfl : S = Z9 := hZ.symm
 try simp only [bS, bA, bF]
 refine hC13 _ ?_; clear hC13 C13
 simp only [bL]
 refine aops_chunk 1 fun C14 hC14 => ?_
 simp only [bL, ↓bO, bS, bA, bF, ↓reduceIte, Nat.reduceEqDiff, reduceCtorEq, List.length_map, Nat.reduceAdd, Nat.reduceLeDiff, Int.toNat_natCast, Int.natCast_nonneg]
 refine hC14 _ ?_; clear hC14 C14
 simp only [bL]
 refine aops_chunk 1 fun C15 hC15 => ?_
 simp only [bL, ↓bO, bS, bA, bF, ↓reduceIte, Nat.reduceEqDiff, reduceCtorEq, aExtract, Nat.reduceAdd, Nat.reduceLT, Nat.zero_lt_succ, List.length_map, Nat.reduceLeDiff, Int.toNat_natCast, Int.natCast_nonneg]
 refine hC15 _ ?_; clear hC15 C15
 simp only [bL]
 refine aops_chunk 1 fun C16 hC16 => ?_
 simp only [bL, ↓bO, bS, bA, bF, ↓reduceIte, Nat.reduceEqDiff, reduceCtorEq, aExtract, Nat.reduceAdd, Nat.reduceLT, Nat.zero_lt_succ, List.length_map, Nat.reduceLeDiff, Int.toNat_natCast, Int.natCast_nonneg]
 refine hC16 _ ?_; clear hC16 C16
 simp only [bL]
 refine aops_chunk 1 fun C17 hC17 => ?_
 simp only [bL, ↓bO, bS, bA, bF, ↓reduceIte, Nat.reduceEqDiff, reduceCtorEq, List.length_map, Nat.reduceAdd, Nat.reduceLeDiff, Int.toNat_natCast, Int.natCast_nonneg]
 refine hC17 _ ?_; clear hC17 C17
 simp only [bL]
 simp only [↓bO, bS, bA, bF, ↓reduceIte, Nat.reduceEqDiff, reduceCtorEq, List.length_map, bL, Nat.reduceAdd, Nat.reduceLeDiff, Int.toNat_natCast, Int.natCast_nonneg]
 refine hK10 _ ?_; try clear hK10 K10
 refine AWp_seqK fun K18 hK18 => ?_
 refine AWp_region ?_
 refine aops_chunk 1 fun C19 hC19 => ?_
 simp only [bL, ↓bO, bS, bA, bF, ↓reduceIte, Nat.reduceEqDiff, reduceCtorEq, List.length_map, Nat.reduceAdd, Nat.reduceLeDiff, Int.toNat_natCast, Int.natCast_nonneg]
 refine hC19 _ ?_; clear hC19 C19
 simp only [bL]
 refine aops_chunk 1 fun C20 hC20 => ?_
 simp only [bL, ↓bO, bS, bA, bF, ↓reduceIte, Nat.reduceEqDiff, reduceCtorEq, List.length_map, Nat.reduceAdd, Nat.reduceLeDiff, Int.toNat_natCast, Int.natCast_nonneg]
 refine hC20 _ ?_; clear hC20 C20
 simp only [bL]
 refine aops_case 24 rfl (fun hc24 => ?_) (fun hc24 => ?_)
 ·
  simp only [List.set_cons_zero, List.set_cons_succ]
  obtain ⟨hcs, i0, hvi, hi0⟩ := nodeG_some hc24
  refine aops_chunk 1 fun C21 hC21 => ?_
  simp only [bL, ↓bO, bS, bA, bF, ↓reduceIte, Nat.reduceEqDiff, reduceCtorEq, undef, List.length_map, Nat.reduceAdd, Nat.reduceLeDiff, Int.toNat_natCast, Int.natCast_nonneg]
  refine hC21 _ ?_; clear hC21 C21
  simp only [bL]
  refine aops_chunk 1 fun C22 hC22 => ?_
  simp only [bL, ↓bO, bS, bA, bF, ↓reduceIte, Nat.reduceEqDiff, reduceCtorEq, aBool, List.length_map, Nat.reduceAdd, Nat.reduceLeDiff, Int.toNat_natCast, Int.natCast_nonneg]
  refine hC22 _ ?_; clear hC22 C22
  simp only [bL]
  refine aops_chunk 1 fun C23 hC23 => ?_
  simp only [bL, ↓bO, bS, bA, bF, ↓reduceIte, Nat.reduceEqDiff, reduceCtorEq, List.length_map, Nat.reduceAdd, Nat.reduceLeDiff, Int.toNat_natCast, Int.natCast_nonneg]
  refine hC23 _ ?_; clear hC23 C23
  simp only [bL]
  refine aops_case 27 rfl (fun hc27 => ?_) (fun hc27 => ?_)
  ·
   simp only [List.set_cons_zero, List.set_cons_succ]
   obtain ⟨_, k0, hvk, hk0⟩ := nodeG_some hc27
   have hib := hv _ _ hvi
   have hkb := hv _ _ hvk
   obtain ⟨i, rfl⟩ : ∃ i : Nat, i0 = (i : Int) := ⟨i0.toNat, by omega⟩
   obtain ⟨k, rfl⟩ : ∃ k : Nat, k0 = (k : Int) := ⟨k0.toNat, by omega⟩
   refine aops_chunk 1 fun C24 hC24 => ?_
   simp only [bL, ↓bO, bS, bA, bF, ↓reduceIte, Nat.reduceEqDiff, reduceCtorEq, undef, List.length_map, Nat.reduceAdd, Nat.reduceLeDiff, Int.toNat_natCast, Int.natCast_nonneg, hi0, hk0]
   refine hC24 _ ?_; clear hC24 C24
   simp only [bL]
   refine aops_chunk 1 fun C25 hC25 => ?_
   simp only [bL, ↓bO, bS, bA, bF, ↓reduceIte, Nat.reduceEqDiff, reduceCtorEq, undef, List.length_map, Nat.reduceAdd, Nat.reduceLeDiff, Int.toNat_natCast, Int.natCast_nonneg, hi0, hk0]
   refine hC25 _ ?_; clear hC25 C25
   simp only [bL]
   refine aops_chunk 1 fun C26 hC26 => ?_
   simp only [bL, ↓bO, bS, bA, bF, ↓reduceIte, Nat.reduceEqDiff, reduceCtorEq, undef, aField, fo89_2, Nat.reduceAdd, List.length_map, Nat.reduceLeDiff, Int.toNat_natCast, Int.natCast_nonneg, hi0, hk0]
   refine hC26 _ ?_; clear hC26 C26
   simp only [bL]
   refine aops_chunk 1 fun C27 hC27 => ?_
   simp only [bL, ↓bO, bS, bA, bF, ↓reduceIte, Nat.reduceEqDiff, reduceCtorEq, undef, aLoad, ti81, getO, pack, Nat.reduceAdd, Nat.reduceLeDiff, List.length_map, Int.toNat_natCast, Int.natCast_nonneg, hi0, hk0]
   refine hC27 _ ?_; clear hC27 C27
   simp only [bL]
   refine aops_chunk 1 fun C28 hC28 => ?_
   simp only [bL, ↓bO, bS, bA, bF, ↓reduceIte, Nat.reduceEqDiff, reduceCtorEq, undef, List.length_map, Nat.reduceAdd, Nat.reduceLeDiff, Int.toNat_natCast, Int.natCast_nonneg, hi0, hk0]
   refine hC28 _ ?_; clear hC28 C28
   simp only [bL]
   refine aops_chunk 1 fun C29 hC29 => ?_
   simp only [bL, ↓bO, bS, bA, bF, ↓reduceIte, Nat.reduceEqDiff, reduceCtorEq, undef, List.length_map, Nat.reduceAdd, Nat.reduceLeDiff, Int.toNat_natCast, Int.natCast_nonneg, hi0, hk0]
   refine hC29 _ ?_; clear hC29 C29
   simp only [bL]
   refine aops_chunk 1 fun C30 hC30 => ?_
   simp only [bL, ↓bO, bS, bA, bF, ↓reduceIte, Nat.reduceEqDiff, reduceCtorEq, undef, aCallV, List.length_map, Nat.reduceAdd, Nat.reduceLeDiff, Int.toNat_natCast, Int.natCast_nonneg, hi0, hk0]
   refine FCalls.at (FSm_f S.F hF i k (by omega) (by omega)) (.cons (.v _) (.cons (.v _) .nil)) (fun _ => .v _) (i := 4) (j := 5) (k := 6) rfl rfl rfl (by decide) (by decide) (by decide) (by first | omega | (simp only; omega)) (by first | omega | (simp only; omega)) (by first | omega | (simp only; omega)) (fun G1 r1 hG1 => ?_)
   try dsimp only at hG1
   simp only [putO, Nat.reduceEqDiff, ↓reduceIte]
   try simp only [bS, bA, bF]
   refine hC30 _ ?_; clear hC30 C30
   simp only [bL]
   refine aops_chunk 1 fun C31 hC31 => ?_
   simp only [bL, ↓bO, bS, bA, bF, ↓reduceIte, Nat.reduceEqDiff, reduceCtorEq, aBool, List.length_map, Nat.reduceAdd, Nat.reduceLeDiff, Int.toNat_natCast, Int.natCast_nonneg, hi0, hk0]
   refine hC31 _ ?_; clear hC31 C31
   simp only [bL]
   simp only [↓bO, bS, bA, bF, ↓reduceIte, Nat.reduceEqDiff, reduceCtorEq, List.length_map, bL, Nat.reduceAdd, Nat.reduceLeDiff, Int.toNat_natCast, Int.natCast_nonneg, hi0, hk0]
   refine hK18 _ ?_; try clear hK18 K18
   refine AWp_ret ?_
   try simp only [bF, retQ, aRes, tupOf, bS, bA]
   refine ⟨_, enumO 0 (cObs ({ S with F := G1 })), ⟨({ S with F := G1 }, r1), ?_, rfl, rfl⟩, .v _ _, cUnd (by omega) _, ?_, ?_, by omega⟩
   · exact ⟨hG1.1, rfl, hG1.2.trans ⟨fun h9 => ⟨hcs, _, _, hvi, hvk, h9⟩, fun h9 => (by obtain ⟨_, i9, k9, h1, h2, h3⟩ := h9; rw [hvi] at h1; rw [hvk] at h2; cases h1; cases h2; exact h3)⟩⟩
   ·
    exact Le.refl _
   · first | (refine ⟨0, rfl, rfl⟩) | (refine ⟨0, by simp only [cObs, enumO, List.drop_zero, List.drop_succ_cons, Nat.reduceAdd], rfl⟩)
  ·
   simp only [List.set_cons_zero, List.set_cons_succ]
   have hno2 := nodeG_none hc27
   refine aops_chunk 1 fun C32 hC32 => ?_
   simp only [bL, ↓bO, bS, bA, bF, ↓reduceIte, Nat.reduceEqDiff, reduceCtorEq, undef, List.length_map, Nat.reduceAdd, Nat.reduceLeDiff, Int.toNat_natCast, Int.natCast_nonneg]
   refine hC32 _ ?_; clear hC32 C32
   simp only [bL]
   refine aops_chunk 1 fun C33 hC33 => ?_
   simp only [bL, ↓bO, bS, bA, bF, ↓reduceIte, Nat.reduceEqDiff, reduceCtorEq, undef, List.length_map, Nat.reduceAdd, Nat.reduceLeDiff, Int.toNat_natCast, Int.natCast_nonneg]
   refine hC33 _ ?_; clear hC33 C33
   simp only [bL]
   refine aops_chunk 1 fun C34 hC34 => ?_
   simp only [bL, ↓bO, bS, bA, bF, ↓reduceIte, Nat.reduceEqDiff, reduceCtorEq, undef, aField, fo89_2, Nat.reduceAdd, List.length_map, Nat.reduceLeDiff, Int.toNat_natCast, Int.natCast_nonneg]
   refine hC34 _ ?_; clear hC34 C34
   simp only [bL]
   refine aops_chunk 1 fun C35 hC35 => ?_
   simp only [bL, ↓bO, bS, bA, bF, ↓reduceIte, Nat.reduceEqDiff, reduceCtorEq, undef, aLoad, ti81, getO, pack, Nat.reduceAdd, Nat.reduceLeDiff, List.length_map, Int.toNat_natCast, Int.natCast_nonneg]
   refine hC35 _ ?_; clear hC35 C35
   simp only [bL]
   refine aops_chunk 1 fun C36 hC36 => ?_
   simp only [bL, ↓bO, bS, bA, bF, ↓reduceIte, Nat.reduceEqDiff, reduceCtorEq, undef, List.length_map, Nat.reduceAdd, Nat.reduceLeDiff, Int.toNat_natCast, Int.natCast_nonneg]
   refine hC36 _ ?_; clear hC36 C36
   simp only [bL]
   refine aops_chunk 1 fun C37 hC37 => ?_
   simp only [bL, ↓bO, bS, bA, bF, ↓reduceIte, Nat.reduceEqDiff, reduceCtorEq, undef, List.length_map, Nat.reduceAdd, Nat.reduceLeDiff, Int.toNat_natCast, Int.natCast_nonneg]
   refine hC37 _ ?_; clear hC37 C37
   simp only [bL]
   refine aops_chunk 1 fun C38 hC38 => ?_
   simp only [bL, ↓bO, bS, bA, bF, ↓reduceIte, Nat.reduceEqDiff, reduceCtorEq, undef, aCallV, List.length_map, Nat.reduceAdd, Nat.reduceLeDiff, Int.toNat_natCast, Int.natCast_nonneg]
   refine hC38 _ ?_; clear hC38 C38
   simp only [bL]
   refine aops_chunk 1 fun C39 hC39 => ?_
   simp only [bL, ↓bO, bS, bA, bF, ↓reduceIte, Nat.reduceEqDiff, reduceCtorEq, aBool, List.length_map, Nat.reduceAdd, Nat.reduceLeDiff, Int.toNat_natCast, Int.natCast_nonneg]
   refine hC39 _ ?_; clear hC39 C39
   simp only [bL]
   simp only [↓bO, bS, bA, bF, ↓reduceIte, Nat.reduceEqDiff, reduceCtorEq, List.length_map, bL, Nat.reduceAdd, Nat.reduceLeDiff, Int.toNat_natCast, Int.natCast_nonneg]
   refine hK18 _ ?_; try clear hK18 K18
   refine AWp_ret ?_
   try simp only [bF, retQ, aRes, tupOf, bS, bA]
   refine ⟨_, enumO 0 (cObs (S)), ⟨(S, false), ?_, rfl, rfl⟩, .v _ _, cUnd (by omega) _, ?_, ?_, by omega⟩
   · exact ⟨FSame.refl hF, rfl, by rcases hno2 with h9 | h9 <;> simp [h9]⟩
   ·
    exact Le.refl _
   · first | (refine ⟨0, rfl, rfl⟩) | (refine ⟨0, by simp only [cObs, enumO, List.drop_zero, List.drop_succ_cons, Nat.reduceAdd], rfl⟩)
 ·
  simp only [List.set_cons_zero, List.set_cons_succ]
  have hno := nodeG_none hc24
  refine aops_chunk 1 fun C40 hC40 => ?_
  simp only [bL, ↓bO, bS, bA, bF, ↓reduceIte, Nat.reduceEqDiff, reduceCtorEq, undef, List.length_map, Nat.reduceAdd, Nat.reduceLeDiff, Int.toNat_natCast, Int.natCast_nonneg]
  refine hC40 _ ?_; clear hC40 C40
  simp only [bL]
  refine aops_chunk 1 fun C41 hC41 => ?_
  simp only [bL, ↓bO, bS, bA, bF, ↓reduceIte, Nat.reduceEqDiff, reduceCtorEq, aBool, List.length_map, Nat.reduceAdd, Nat.reduceLeDiff, Int.toNat_natCast, Int.natCast_nonneg]
  refine hC41 _ ?_; clear hC41 C41
  simp only [bL]
  refine aops_chunk 1 fun C42 hC42 => ?_
  simp only [bL, ↓bO, bS, bA, bF, ↓reduceIte, Nat.reduceEqDiff, reduceCtorEq, List.length_map, Nat.reduceAdd, Nat.reduceLeDiff, Int.toNat_natCast, Int.natCast_nonneg]
  refine hC42 _ ?_; clear hC42 C42
  simp only [bL]
  refine aops_chunk 1 fun C43 hC43 => ?_
  simp only [bL, ↓bO, bS, bA, bF, ↓reduceIte, Nat.reduceEqDiff, reduceCtorEq, undef, List.length_map, Nat.reduceAdd, Nat.reduceLeDiff, Int.toNat_natCast, Int.natCast_nonneg]
  refine hC43 _ ?_; clear hC43 C43
  simp only [bL]
  refine aops_chunk 1 fun C44 hC44 => ?_
  simp only [bL, ↓bO, bS, bA, bF, ↓reduceIte, Nat.reduceEqDiff, reduceCtorEq, undef, List.length_map, Nat.reduceAdd, Nat.reduceLeDiff, Int.toNat_natCast, Int.natCast_nonneg]
  refine hC44 _ ?_; clear hC44 C44
  simp only [bL]
  refine aops_chunk 1 fun C45 hC45 => ?_
  simp only [bL, ↓bO, bS, bA, bF, ↓reduceIte, Nat.reduceEqDiff, reduceCtorEq, undef, aField, fo89_2, Nat.reduceAdd, List.length_map, Nat.reduceLeDiff, Int.toNat_natCast, Int.natCast_nonneg]
  refine hC45 _ ?_; clear hC45 C45
  simp only [bL]
  refine aops_chunk 1 fun C46 hC46 => ?_
  simp only [bL, ↓bO, bS, bA, bF, ↓reduceIte, Nat.reduceEqDiff, reduceCtorEq, undef, aLoad, ti81, getO, pack, Nat.reduceAdd, Nat.reduceLeDiff, List.length_map, Int.toNat_natCast, Int.natCast_nonneg]
  refine hC46 _ ?_; clear hC46 C46
  simp only [bL]
  refine aops_chunk 1 fun C47 hC47 => ?_
  simp only [bL, ↓bO, bS, bA, bF, ↓reduceIte, Nat.reduceEqDiff, reduceCtorEq, undef, List.length_map, Nat.reduceAdd, Nat.reduceLeDiff, Int.toNat_natCast, Int.natCast_nonneg]
  refine hC47 _ ?_; clear hC47 C47
  simp only [bL]
  refine aops_chunk 1 fun C48 hC48 => ?_
  simp only [bL, ↓bO, bS, bA, bF, ↓reduceIte, Nat.reduceEqDiff, reduceCtorEq, undef, List.length_map, Nat.reduceAdd, Nat.reduceLeDiff, Int.toNat_natCast, Int.natCast_nonneg]
  refine hC48 _ ?_; clear hC48 C48
  simp only [bL]
  refine aops_chunk 1 fun C49 hC49 => ?_
  simp only [bL, ↓bO, bS, bA, bF, ↓reduceIte, Nat.reduceEqDiff, reduceCtorEq, undef, aCallV, List.length_map, Nat.reduceAdd, Nat.reduceLeDiff, Int.toNat_natCast, Int.natCast_nonneg]
  refine hC49 _ ?_; clear hC49 C49
  simp only [bL]
  refine aops_chunk 1 fun C50 hC50 => ?_
  simp only [bL, ↓bO, bS, bA, bF, ↓reduceIte, Nat.reduceEqDiff, reduceCtorEq, aBool, List.length_map, Nat.reduceAdd, Nat.reduceLeDiff, Int.toNat_natCast, Int.natCast_nonneg]
  refine hC50 _ ?_; clear hC50 C50
  simp only [bL]
  simp only [↓bO, bS, bA, bF, ↓reduceIte, Nat.reduceEqDiff, reduceCtorEq, List.length_map, bL, Nat.reduceAdd, Nat.reduceLeDiff, Int.toNat_natCast, Int.natCast_nonneg]
  refine hK18 _ ?_; try clear hK18 K18
  refine AWp_ret ?_
  try simp only [bF, retQ, aRes, tupOf, bS, bA]
  refine ⟨_, enumO 0 (cObs (S)), ⟨(S, false), ?_, rfl, rfl⟩, .v _ _, cUnd (by omega) _, ?_, ?_, by omega⟩
  · exact ⟨FSame.refl hF, rfl, by rcases hno with h9 | h9 <;> simp [h9]⟩
  ·
   exact Le.refl _
  · first | (refine ⟨0, rfl, rfl⟩) | (refine ⟨0, by simp only [cObs, enumO, List.drop_zero, List.drop_succ_cons, Nat.reduceAdd], rfl⟩)
theorem PKind_c (S : CS) (hw : ∀ w ∈ S.W, w = -1 ∨ (0 ≤ w ∧ w < (S.G.N.length : Int))) (r : Nat) (x : Int) (hx : S.W[r]? = some x) : ACalls Try.prog 35 [.agg [.ptr 0 0, .v (.int .i64 (r : Int))]] (enumO 0 (cObs S)) 8 fun z os n => (∃ s : CS × Int, (s.1 = S ∧ ((x < 0 ∧ s.2 = 0) ∨ (0 ≤ x ∧ ∃ g, S.G.N[x.toNat]? = some g ∧ s.2 = g.k))) ∧ z = (fun s : Int => .v (.int .i64 s)) s.2 ∧ os = enumO 0 (cObs s.1)) ∧ n = 8 := by
 refine ACalls.clean (C := fun z os => ∃ s : CS × Int, (s.1 = S ∧ ((x < 0 ∧ s.2 = 0) ∨ (0 ≤ x ∧ ∃ g, S.G.N[x.toNat]? = some g ∧ s.2 = g.k))) ∧ z = (fun s : Int => .v (.int .i64 s)) s.2 ∧ os = enumO 0 (cObs s.1)) ?_
 refine ACalls_intro Try.func35 (by kernel_rfl) rfl (by rw [Try.ntmps35]; simp) (fun hm => ?_)
 simp only [Try.ntmps35, Try.results35, List.length_cons, List.length_nil, Nat.reduceAdd, Nat.reduceSub, List.replicate_succ, List.replicate_zero, List.cons_append, List.nil_append]
 simp only [cObs, enumO, Nat.reduceAdd]
 have hrl := (List.getElem?_eq_some_iff.1 hx).1
 have hwx := hw x (List.mem_of_getElem? hx)
 refine AWp_seqK fun K1 hK1 => ?_
 refine AWp_region ?_
 refine aops_chunk 1 fun C2 hC2 => ?_
 simp only [bL, ↓bO, bS, bA, bF, ↓reduceIte, Nat.reduceEqDiff, reduceCtorEq, List.length_map, Nat.reduceAdd, Nat.reduceLeDiff, Int.toNat_natCast, Int.natCast_nonneg, hrl, gM hx, intC, Int.ofNat_lt]
 refine hC2 _ ?_; clear hC2 C2
 simp only [bL]
 simp only [↓bO, bS, bA, bF, ↓reduceIte, Nat.reduceEqDiff, reduceCtorEq, List.length_map, bL, Nat.reduceAdd, Nat.reduceLeDiff, Int.toNat_natCast, Int.natCast_nonneg, hrl, gM hx, intC, Int.ofNat_lt]
 refine hK1 _ ?_; try clear hK1 K1
 refine AWp_seqK fun K3 hK3 => ?_
 refine AWp_seqK fun K4 hK4 => ?_
 refine AWp_drawK 15 mixed (by kernel_rfl) fun K5 hK5 => ?_
 simp only [bL]
 refine dRun_chunk 1 fun C6 hC6 => ?_
 simp only [bL, ↓dRun, ↓dOp, ↓bO, bS, bA, bF, ↓reduceIte, Nat.reduceEqDiff, reduceCtorEq, aField, fo61_0, Nat.reduceAdd, List.length_map, Nat.reduceLeDiff, Int.toNat_natCast, Int.natCast_nonneg, hrl, gM hx, intC, Int.ofNat_lt]
 refine hC6 _ ?_; clear hC6 C6
 simp only [bL]
 refine dRun_chunk 1 fun C7 hC7 => ?_
 simp only [bL, ↓dRun, ↓dOp, ↓bO, bS, bA, bF, ↓reduceIte, Nat.reduceEqDiff, reduceCtorEq, aLoad, ti25, getO, pack, Nat.reduceAdd, Nat.reduceLeDiff, List.length_map, Int.toNat_natCast, Int.natCast_nonneg, hrl, gM hx, intC, Int.ofNat_lt]
 refine hC7 _ ?_; clear hC7 C7
 simp only [bL]
 refine dRun_chunk 1 fun C8 hC8 => ?_
 simp only [bL, ↓dRun, ↓dOp, ↓bO, bS, bA, bF, ↓reduceIte, Nat.reduceEqDiff, reduceCtorEq, aBin, pt25, List.length_map, Nat.reduceAdd, Nat.reduceLeDiff, Int.toNat_natCast, Int.natCast_nonneg, hrl, gM hx, intC, Int.ofNat_lt]
 refine hC8 _ ?_; clear hC8 C8
 simp only [bL]
 refine dRun_chunk 1 fun C9 hC9 => ?_
 simp only [bL, ↓dRun, ↓dOp, ↓bO, bS, bA, bF, ↓reduceIte, Nat.reduceEqDiff, reduceCtorEq, List.length_map, Nat.reduceAdd, Nat.reduceLeDiff, Int.toNat_natCast, Int.natCast_nonneg, hrl, gM hx, intC, Int.ofNat_lt]
 refine hC9 _ ?_; clear hC9 C9
 simp only [bL]
 refine dRun_case 6 rfl (fun hc6 => ?_) (fun hc6 => ?_)
 ·
  simp only [List.set_cons_zero, List.set_cons_succ]
  cases hc6
 ·
  simp only [List.set_cons_zero, List.set_cons_succ]
  refine dRun_chunk 1 fun C10 hC10 => ?_
  simp only [bL, ↓dRun, ↓dOp, ↓bO, bS, bA, bF, ↓reduceIte, Nat.reduceEqDiff, reduceCtorEq, undef, aField, fo61_0, Nat.reduceAdd, List.length_map, Nat.reduceLeDiff, Int.toNat_natCast, Int.natCast_nonneg, hrl, gM hx, intC, Int.ofNat_lt]
  refine hC10 _ ?_; clear hC10 C10
  simp only [bL]
  refine dRun_chunk 1 fun C11 hC11 => ?_
  simp only [bL, ↓dRun, ↓dOp, ↓bO, bS, bA, bF, ↓reduceIte, Nat.reduceEqDiff, reduceCtorEq, undef, aLoad, ti25, getO, pack, Nat.reduceAdd, Nat.reduceLeDiff, List.length_map, Int.toNat_natCast, Int.natCast_nonneg, hrl, gM hx, intC, Int.ofNat_lt]
  refine hC11 _ ?_; clear hC11 C11
  simp only [bL]
  refine dRun_chunk 1 fun C12 hC12 => ?_
  simp only [bL, ↓dRun, ↓dOp, ↓bO, bS, bA, bF, ↓reduceIte, Nat.reduceEqDiff, reduceCtorEq, undef, List.length_map, Nat.reduceAdd, Nat.reduceLeDiff, Int.toNat_natCast, Int.natCast_nonneg, hrl, gM hx, intC, Int.ofNat_lt]
  refine hC12 _ ?_; clear hC12 C12
  simp only [bL]
  refine dRun_chunk 1 fun C13 hC13 => ?_
  simp only [bL, ↓dRun, ↓dOp, ↓bO, bS, bA, bF, ↓reduceIte, Nat.reduceEqDiff, reduceCtorEq, undef, aField, fo89_3, Nat.reduceAdd, List.length_map, Nat.reduceLeDiff, Int.toNat_natCast, Int.natCast_nonneg, hrl, gM hx, intC, Int.ofNat_lt]
  refine hC13 _ ?_; clear hC13 C13
  simp only [bL]
  refine dRun_chunk 1 fun C14 hC14 => ?_
  simp only [bL, ↓dRun, ↓dOp, ↓bO, bS, bA, bF, ↓reduceIte, Nat.reduceEqDiff, reduceCtorEq, undef, aLoad, ti41, getO, pack, Nat.reduceAdd, Nat.reduceLeDiff, List.length_map, Int.toNat_natCast, Int.natCast_nonneg, hrl, gM hx, intC, Int.ofNat_lt]
  refine hC14 _ ?_; clear hC14 C14
  simp only [bL]
  refine dRun_chunk 1 fun C15 hC15 => ?_
  simp only [bL, ↓dRun, ↓dOp, ↓bO, bS, bA, bF, ↓reduceIte, Nat.reduceEqDiff, reduceCtorEq, undef, aField, fo61_1, Nat.reduceAdd, List.length_map, Nat.reduceLeDiff, Int.toNat_natCast, Int.natCast_nonneg, hrl, gM hx, intC, Int.ofNat_lt]
  refine hC15 _ ?_; clear hC15 C15
  simp only [bL]
  refine dRun_chunk 1 fun C16 hC16 => ?_
  simp only [bL, ↓dRun, ↓dOp, ↓bO, bS, bA, bF, ↓reduceIte, Nat.reduceEqDiff, reduceCtorEq, undef, aLoad, ti3, getO, pack, Nat.reduceAdd, Nat.reduceLeDiff, List.length_map, Int.toNat_natCast, Int.natCast_nonneg, hrl, gM hx, intC, Int.ofNat_lt]
  refine hC16 _ ?_; clear hC16 C16
  simp only [bL]
  refine dRun_chunk 1 fun C17 hC17 => ?_
  simp only [bL, ↓dRun, ↓dOp, ↓bO, bS, bA, bF, ↓reduceIte, Nat.reduceEqDiff, reduceCtorEq, undef, getO, aIndexA, es41, Int.natCast_nonneg, Int.ofNat_lt, Int.toNat_natCast, List.length_map, Int.le_refl, Int.toNat_zero, Int.toNat_one, Int.reduceLE, Nat.reduceAdd, Nat.reduceLeDiff, hrl, gM hx, intC]
  refine hC17 _ ?_; clear hC17 C17
  simp only [bL]
  refine dRun_chunk 1 fun C18 hC18 => ?_
  simp only [bL, ↓dRun, ↓dOp, ↓bO, bS, bA, bF, ↓reduceIte, Nat.reduceEqDiff, reduceCtorEq, undef, aLoad, ti3, getO, pack, Nat.reduceAdd, Nat.reduceLeDiff, List.length_map, Int.toNat_natCast, Int.natCast_nonneg, hrl, gM hx, intC, Int.ofNat_lt]
  refine hC18 _ ?_; clear hC18 C18
  simp only [bL]
  refine dRun_chunk 1 fun C19 hC19 => ?_
  simp only [bL, ↓dRun, ↓dOp, ↓bO, bS, bA, bF, ↓reduceIte, Nat.reduceEqDiff, reduceCtorEq, undef, aBin, List.length_map, Nat.reduceAdd, Nat.reduceLeDiff, Int.toNat_natCast, Int.natCast_nonneg, hrl, gM hx, intC, Int.ofNat_lt]
  refine hC19 _ ?_; clear hC19 C19
  simp only [bL]
  simp only [↓dRun, ↓dOp, bL, ↓bO, bS, bA, bF, ↓reduceIte, Nat.reduceEqDiff, reduceCtorEq, aBool, List.length_map, Nat.reduceAdd, Nat.reduceLeDiff, Int.toNat_natCast, Int.natCast_nonneg, hrl, gM hx, intC, Int.ofNat_lt]
  refine hK5 _ ?_; try clear hK5 K5
  simp only [bL, aops, bF]
  refine hK4 _ ?_; try clear hK4 K4
  refine AWp_cond rfl (fun hb17 => ?_) (fun hb17 => ?_)
  ·
   have hneg : x < 0 := by simpa using hb17
   refine AWp_seqK fun K20 hK20 => ?_
   refine AWp_region ?_
   simp only [↓bO, bS, bA, bF, ↓reduceIte, Nat.reduceEqDiff, reduceCtorEq, List.length_map, bL, Nat.reduceAdd, Nat.reduceLeDiff, Int.toNat_natCast, Int.natCast_nonneg, hrl, gM hx, intC, Int.ofNat_lt]
   refine hK20 _ ?_; try clear hK20 K20
   refine AWp_ret ?_
   try simp only [bF, retQ, aRes, tupOf, bS, bA]
   refine ⟨_, enumO 0 (cObs (S)), ⟨(S, (0 : Int)), ?_, rfl, rfl⟩, .v _ _, cUnd (by omega) _, ?_, ?_, by omega⟩
   · exact ⟨rfl, .inl ⟨hneg, rfl⟩⟩
   ·
    exact Le.refl _
   · first | (refine ⟨1, rfl, rfl⟩) | (refine ⟨0, rfl, rfl⟩) | (refine ⟨1, by simp only [cObs, enumO, List.drop_zero, List.drop_succ_cons, Nat.reduceAdd], rfl⟩) | (refine ⟨0, by simp only [cObs, enumO, List.drop_zero, List.drop_succ_cons, Nat.reduceAdd], rfl⟩)
  ·
   have hpos : 0 ≤ x := by simpa using hb17
   obtain ⟨g, hg⟩ : ∃ g, S.G.N[x.toNat]? = some g := ⟨_, List.getElem?_eq_getElem (by omega)⟩
   refine AWp_skip ?_
   try simp only [bF]
   refine hK3 _ ?_; try clear hK3 K3
   refine AWp_seqK fun K21 hK21 => ?_
   refine AWp_drawK 14 mixed (by kernel_rfl) fun K22 hK22 => ?_
   simp only [bL]
   refine dRun_chunk 1 fun C23 hC23 => ?_
   simp only [bL, ↓dRun, ↓dOp, ↓bO, bS, bA, bF, ↓reduceIte, Nat.reduceEqDiff, reduceCtorEq, aField, fo61_0, Nat.reduceAdd, List.length_map, Nat.reduceLeDiff, Int.toNat_natCast, Int.natCast_nonneg, hrl, gM hx, intC, Int.ofNat_lt]
   refine hC23 _ ?_; clear hC23 C23
   simp only [bL]
   refine dRun_chunk 1 fun C24 hC24 => ?_
   simp only [bL, ↓dRun, ↓dOp, ↓bO, bS, bA, bF, ↓reduceIte, Nat.reduceEqDiff, reduceCtorEq, aLoad, ti25, getO, pack, Nat.reduceAdd, Nat.reduceLeDiff, List.length_map, Int.toNat_natCast, Int.natCast_nonneg, hrl, gM hx, intC, Int.ofNat_lt]
   refine hC24 _ ?_; clear hC24 C24
   simp only [bL]
   refine dRun_chunk 1 fun C25 hC25 => ?_
   simp only [bL, ↓dRun, ↓dOp, ↓bO, bS, bA, bF, ↓reduceIte, Nat.reduceEqDiff, reduceCtorEq, List.length_map, Nat.reduceAdd, Nat.reduceLeDiff, Int.toNat_natCast, Int.natCast_nonneg, hrl, gM hx, intC, Int.ofNat_lt]
   refine hC25 _ ?_; clear hC25 C25
   simp only [bL]
   refine dRun_chunk 1 fun C26 hC26 => ?_
   simp only [bL, ↓dRun, ↓dOp, ↓bO, bS, bA, bF, ↓reduceIte, Nat.reduceEqDiff, reduceCtorEq, aField, fo89_1, Nat.reduceAdd, List.length_map, Nat.reduceLeDiff, Int.toNat_natCast, Int.natCast_nonneg, hrl, gM hx, intC, Int.ofNat_lt]
   refine hC26 _ ?_; clear hC26 C26
   simp only [bL]
   refine dRun_chunk 1 fun C27 hC27 => ?_
   simp only [bL, ↓dRun, ↓dOp, ↓bO, bS, bA, bF, ↓reduceIte, Nat.reduceEqDiff, reduceCtorEq, aLoad, ti84, getO, pack, Nat.reduceAdd, Nat.reduceLeDiff, List.length_map, Int.toNat_natCast, Int.natCast_nonneg, hrl, gM hx, intC, Int.ofNat_lt]
   refine hC27 _ ?_; clear hC27 C27
   simp only [bL]
   refine dRun_chunk 1 fun C28 hC28 => ?_
   simp only [bL, ↓dRun, ↓dOp, ↓bO, bS, bA, bF, ↓reduceIte, Nat.reduceEqDiff, reduceCtorEq, aField, fo61_0, Nat.reduceAdd, List.length_map, Nat.reduceLeDiff, Int.toNat_natCast, Int.natCast_nonneg, hrl, gM hx, intC, Int.ofNat_lt]
   refine hC28 _ ?_; clear hC28 C28
   simp only [bL]
   refine dRun_chunk 1 fun C29 hC29 => ?_
   simp only [bL, ↓dRun, ↓dOp, ↓bO, bS, bA, bF, ↓reduceIte, Nat.reduceEqDiff, reduceCtorEq, aLoad, ti25, getO, pack, Nat.reduceAdd, Nat.reduceLeDiff, List.length_map, Int.toNat_natCast, Int.natCast_nonneg, hrl, gM hx, intC, Int.ofNat_lt]
   refine hC29 _ ?_; clear hC29 C29
   simp only [bL]
   refine dRun_chunk 1 fun C30 hC30 => ?_
   simp only [bL, ↓dRun, ↓dOp, ↓bO, bS, bA, bF, ↓reduceIte, Nat.reduceEqDiff, reduceCtorEq, List.length_map, Nat.reduceAdd, Nat.reduceLeDiff, Int.toNat_natCast, Int.natCast_nonneg, hrl, gM hx, intC, Int.ofNat_lt]
   refine hC30 _ ?_; clear hC30 C30
   simp only [bL]
   refine dRun_chunk 1 fun C31 hC31 => ?_
   simp only [bL, ↓dRun, ↓dOp, ↓bO, bS, bA, bF, ↓reduceIte, Nat.reduceEqDiff, reduceCtorEq, aField, fo89_3, Nat.reduceAdd, List.length_map, Nat.reduceLeDiff, Int.toNat_natCast, Int.natCast_nonneg, hrl, gM hx, intC, Int.ofNat_lt]
   refine hC31 _ ?_; clear hC31 C31
   simp only [bL]
   refine dRun_chunk 1 fun C32 hC32 => ?_
   simp only [bL, ↓dRun, ↓dOp, ↓bO, bS, bA, bF, ↓reduceIte, Nat.reduceEqDiff, reduceCtorEq, aLoad, ti41, getO, pack, Nat.reduceAdd, Nat.reduceLeDiff, List.length_map, Int.toNat_natCast, Int.natCast_nonneg, hrl, gM hx, intC, Int.ofNat_lt]
   refine hC32 _ ?_; clear hC32 C32
   simp only [bL]
   refine dRun_chunk 1 fun C33 hC33 => ?_
   simp only [bL, ↓dRun, ↓dOp, ↓bO, bS, bA, bF, ↓reduceIte, Nat.reduceEqDiff, reduceCtorEq, aField, fo61_1, Nat.reduceAdd, List.length_map, Nat.reduceLeDiff, Int.toNat_natCast, Int.natCast_nonneg, hrl, gM hx, intC, Int.ofNat_lt]
   refine hC33 _ ?_; clear hC33 C33
   simp only [bL]
   refine dRun_chunk 1 fun C34 hC34 => ?_
   simp only [bL, ↓dRun, ↓dOp, ↓bO, bS, bA, bF, ↓reduceIte, Nat.reduceEqDiff, reduceCtorEq, aLoad, ti3, getO, pack, Nat.reduceAdd, Nat.reduceLeDiff, List.length_map, Int.toNat_natCast, Int.natCast_nonneg, hrl, gM hx, intC, Int.ofNat_lt]
   refine hC34 _ ?_; clear hC34 C34
   simp only [bL]
   refine dRun_chunk 1 fun C35 hC35 => ?_
   simp only [bL, ↓dRun, ↓dOp, ↓bO, bS, bA, bF, ↓reduceIte, Nat.reduceEqDiff, reduceCtorEq, getO, aIndexA, es41, Int.natCast_nonneg, Int.ofNat_lt, Int.toNat_natCast, List.length_map, Int.le_refl, Int.toNat_zero, Int.toNat_one, Int.reduceLE, Nat.reduceAdd, Nat.reduceLeDiff, hrl, gM hx, intC]
   refine hC35 _ ?_; clear hC35 C35
   simp only [bL]
   simp only [↓dRun, ↓dOp, bL, ↓bO, bS, bA, bF, ↓reduceIte, Nat.reduceEqDiff, reduceCtorEq, aLoad, ti3, getO, pack, Nat.reduceAdd, Nat.reduceLeDiff, List.length_map, Int.toNat_natCast, Int.natCast_nonneg, hrl, gM hx, intC, Int.ofNat_lt]
   refine hK22 _ ?_; try clear hK22 K22
   simp only [bL]
   refine aops_chunk 1 fun C36 hC36 => ?_
   simp only [bL, ↓bO, bS, bA, bF, ↓reduceIte, Nat.reduceEqDiff, reduceCtorEq, aCallV, List.length_map, Nat.reduceAdd, Nat.reduceLeDiff, Int.toNat_natCast, Int.natCast_nonneg, hrl, gM hx, intC, Int.ofNat_lt]
   refine GCalls.at (Kind_calls S.G x g hpos hg) (.cons (.v _) .nil) (.v _) (i := 1) (j := 2) (k := 3) rfl rfl rfl (by decide) (by decide) (by decide) (by first | omega | (simp only; omega)) (by first | omega | (simp only; omega)) (by first | omega | (simp only; omega)) ?_
   simp only [putO, Nat.reduceEqDiff, ↓reduceIte]
   try simp only [bS, bA, bF]
   refine hC36 _ ?_; clear hC36 C36
   simp only [bL]
   simp only [↓bO, bS, bA, bF, ↓reduceIte, Nat.reduceEqDiff, reduceCtorEq, List.length_map, bL, Nat.reduceAdd, Nat.reduceLeDiff, Int.toNat_natCast, Int.natCast_nonneg, hrl, gM hx, intC, Int.ofNat_lt]
   refine hK21 _ ?_; try clear hK21 K21
   refine AWp_ret ?_
   try simp only [bF, retQ, aRes, tupOf, bS, bA]
   refine ⟨_, enumO 0 (cObs (S)), ⟨(S, g.k), ?_, rfl, rfl⟩, .v _ _, cUnd (by omega) _, ?_, ?_, by omega⟩
   · exact ⟨rfl, .inr ⟨hpos, g, hg, rfl⟩⟩
   ·
    exact Le.refl _
   · first | (refine ⟨1, rfl, rfl⟩) | (refine ⟨0, rfl, rfl⟩) | (refine ⟨1, by simp only [cObs, enumO, List.drop_zero, List.drop_succ_cons, Nat.reduceAdd], rfl⟩) | (refine ⟨0, by simp only [cObs, enumO, List.drop_zero, List.drop_succ_cons, Nat.reduceAdd], rfl⟩)
theorem CKind_c (S : CS) (hF : FInv S.F) (hfl : S.F.up.length = S.W.length) (hw : ∀ w ∈ S.W, w = -1 ∨ (0 ≤ w ∧ w < (S.G.N.length : Int))) (hv : ∀ n k, vfind S.G.V n = some k → 0 ≤ k ∧ k < (S.F.up.length : Int)) (n : Int) : CCalls (σ := Int) 23 [.ptr 0 0, .v (.int .i64 n)] (S) (fun s => FSame S.F s.1.F ∧ s.1 = { S with F := s.1.F } ∧ (((S.clash = true ∨ vfind S.G.V n = none) ∧ s.2 = 0) ∨ (S.clash = false ∧ ∃ (i : Int) (r : Nat) (x : Int), vfind S.G.V n = some i ∧ Rt S.F.up i.toNat r ∧ S.W[r]? = some x ∧ ((x < 0 ∧ s.2 = 0) ∨ (0 ≤ x ∧ ∃ g, S.G.N[x.toNat]? = some g ∧ s.2 = g.k))))) (fun s => .v (.int .i64 s)) := by
 refine ACalls.clean (C := fun r os => ∃ s : CS × Int, (FSame S.F s.1.F ∧ s.1 = { S with F := s.1.F } ∧ (((S.clash = true ∨ vfind S.G.V n = none) ∧ s.2 = 0) ∨ (S.clash = false ∧ ∃ (i : Int) (r : Nat) (x : Int), vfind S.G.V n = some i ∧ Rt S.F.up i.toNat r ∧ S.W[r]? = some x ∧ ((x < 0 ∧ s.2 = 0) ∨ (0 ≤ x ∧ ∃ g, S.G.N[x.toNat]? = some g ∧ s.2 = g.k))))) ∧ r = (fun s : Int => .v (.int .i64 s)) s.2 ∧ os = enumO 0 (cObs s.1)) ?_
 refine ACalls_intro Try.func23 (by kernel_rfl) rfl (by rw [Try.ntmps23]; simp) (fun hm => ?_)
 simp only [Try.ntmps23, Try.results23, List.length_cons, List.length_nil, Nat.reduceAdd, Nat.reduceSub, List.replicate_succ, List.replicate_zero, List.cons_append, List.nil_append]
 simp only [cObs, enumO, Nat.reduceAdd]
 refine AWp_seqK fun K1 hK1 => ?_
 refine AWp_region ?_
 simp only [↓bO, bS, bA, bF, ↓reduceIte, Nat.reduceEqDiff, reduceCtorEq, List.length_map, bL, Nat.reduceAdd, Nat.reduceLeDiff, Int.toNat_natCast, Int.natCast_nonneg]
 refine hK1 _ ?_; try clear hK1 K1
 refine AWp_seqK fun K2 hK2 => ?_
 refine AWp_region ?_
 refine aops_chunk 1 fun C3 hC3 => ?_
 simp only [bL, ↓bO, bS, bA, bF, ↓reduceIte, Nat.reduceEqDiff, reduceCtorEq, List.length_map, Nat.reduceAdd, Nat.reduceLeDiff, Int.toNat_natCast, Int.natCast_nonneg]
 refine hC3 _ ?_; clear hC3 C3
 simp only [bL]
 refine aops_chunk 1 fun C4 hC4 => ?_
 simp only [bL, ↓bO, bS, bA, bF, ↓reduceIte, Nat.reduceEqDiff, reduceCtorEq, List.length_map, Nat.reduceAdd, Nat.reduceLeDiff, Int.toNat_natCast, Int.natCast_nonneg]
 refine hC4 _ ?_; clear hC4 C4
 simp only [bL]
 refine aops_chunk 1 fun C5 hC5 => ?_
 simp only [bL, ↓bO, bS, bA, bF, ↓reduceIte, Nat.reduceEqDiff, reduceCtorEq, aCallV, List.length_map, Nat.reduceAdd, Nat.reduceLeDiff, Int.toNat_natCast, Int.natCast_nonneg]
 refine CCalls.at (node_c S n) (.cons (.v _) .nil) (fun _ => .tup (.cons (.v _) (.cons (.v _) .nil))) (i0 := 0) (i1 := 1) (i2 := 2) (i3 := 3) (i4 := 4) (i5 := 5) (i6 := 6) (i7 := 7) (by decide) (by simp) ⟨rfl, rfl, rfl, rfl, rfl, rfl, rfl, rfl, trivial⟩ (fun Z9 u9 hZ9 => ?_)
 try dsimp only at hZ9
 simp only [cObsAt, List.zip_cons_cons, List.zip_nil_left, List.zip_nil_right, putsO, putO, Nat.reduceEqDiff, ↓reduceIte]
 obtain ⟨hZ, rfl⟩ := hZ9
 obtain rfl : S = Z9 := hZ.symm
 try simp only [bS, bA, bF]
 refine hC5 _ ?_; clear hC5 C5
 simp only [bL]
 refine aops_chunk 1 fun C6 hC6 => ?_
 simp only [bL, ↓bO, bS, bA, bF, ↓reduceIte, Nat.reduceEqDiff, reduceCtorEq, List.length_map, Nat.reduceAdd, Nat.reduceLeDiff, Int.toNat_natCast, Int.natCast_nonneg]
 refine hC6 _ ?_; clear hC6 C6
 simp only [bL]
 refine aops_chunk 1 fun C7 hC7 => ?_
 simp only [bL, ↓bO, bS, bA, bF, ↓reduceIte, Nat.reduceEqDiff, reduceCtorEq, aExtract, Nat.reduceAdd, Nat.reduceLT, Nat.zero_lt_succ, List.length_map, Nat.reduceLeDiff, Int.toNat_natCast, Int.natCast_nonneg]
 refine hC7 _ ?_; clear hC7 C7
 simp only [bL]
 refine aops_chunk 1 fun C8 hC8 => ?_
 simp only [bL, ↓bO, bS, bA, bF, ↓reduceIte, Nat.reduceEqDiff, reduceCtorEq, aExtract, Nat.reduceAdd, Nat.reduceLT, Nat.zero_lt_succ, List.length_map, Nat.reduceLeDiff, Int.toNat_natCast, Int.natCast_nonneg]
 refine hC8 _ ?_; clear hC8 C8
 simp only [bL]
 refine aops_chunk 1 fun C9 hC9 => ?_
 simp only [bL, ↓bO, bS, bA, bF, ↓reduceIte, Nat.reduceEqDiff, reduceCtorEq, List.length_map, Nat.reduceAdd, Nat.reduceLeDiff, Int.toNat_natCast, Int.natCast_nonneg]
 refine hC9 _ ?_; clear hC9 C9
 simp only [bL]
 simp only [↓bO, bS, bA, bF, ↓reduceIte, Nat.reduceEqDiff, reduceCtorEq, List.length_map, bL, Nat.reduceAdd, Nat.reduceLeDiff, Int.toNat_natCast, Int.natCast_nonneg]
 refine hK2 _ ?_; try clear hK2 K2
 refine AWp_seqK fun K10 hK10 => ?_
 refine AWp_seqK fun K11 hK11 => ?_
 refine AWp_region ?_
 refine aops_chunk 1 fun C12 hC12 => ?_
 simp only [bL, ↓bO, bS, bA, bF, ↓reduceIte, Nat.reduceEqDiff, reduceCtorEq, List.length_map, Nat.reduceAdd, Nat.reduceLeDiff, Int.toNat_natCast, Int.natCast_nonneg]
 refine hC12 _ ?_; clear hC12 C12
 simp only [bL]
 simp only [↓bO, bS, bA, bF, ↓reduceIte, Nat.reduceEqDiff, reduceCtorEq, aUn, List.length_map, bL, Nat.reduceAdd, Nat.reduceLeDiff, Int.toNat_natCast, Int.natCast_nonneg]
 refine hK11 _ ?_; try clear hK11 K11
 refine AWp_cond rfl (fun hb14 => ?_) (fun hb14 => ?_)
 ·
  have hno := nodeG_none (by simpa using hb14)
  refine AWp_seqK fun K13 hK13 => ?_
  refine AWp_region ?_
  simp only [↓bO, bS, bA, bF, ↓reduceIte, Nat.reduceEqDiff, reduceCtorEq, List.length_map, bL, Nat.reduceAdd, Nat.reduceLeDiff, Int.toNat_natCast, Int.natCast_nonneg]
  refine hK13 _ ?_; try clear hK13 K13
  refine AWp_ret ?_
  try simp only [bF, retQ, aRes, tupOf, bS, bA]
  refine ⟨_, enumO 0 (cObs (S)), ⟨(S, (0 : Int)), ?_, rfl, rfl⟩, .v _ _, cUnd (by omega) _, ?_, ?_, by omega⟩
  · exact ⟨FSame.refl hF, rfl, .inl ⟨hno, rfl⟩⟩
  ·
   exact Le.refl _
  · first | (refine ⟨0, rfl, rfl⟩) | (refine ⟨0, by simp only [cObs, enumO, List.drop_zero, List.drop_succ_cons, Nat.reduceAdd], rfl⟩)
 ·
  obtain ⟨hcs, i0, hvi, hi0⟩ := nodeG_some (S := S) (n := n) (by simpa using hb14)
  have hib := hv _ _ hvi
  obtain ⟨i, rfl⟩ : ∃ i : Nat, i0 = (i : Int) := ⟨i0.toNat, by omega⟩
  refine AWp_skip ?_
  try simp only [bF]
  refine hK10 _ ?_; try clear hK10 K10
  refine AWp_seqK fun K14 hK14 => ?_
  refine AWp_region ?_
  refine aops_chunk 1 fun C15 hC15 => ?_
  simp only [bL, ↓bO, bS, bA, bF, ↓reduceIte, Nat.reduceEqDiff, reduceCtorEq, List.length_map, Nat.reduceAdd, Nat.reduceLeDiff, Int.toNat_natCast, Int.natCast_nonneg, hi0]
  refine hC15 _ ?_; clear hC15 C15
  simp only [bL]
  refine aops_chunk 1 fun C16 hC16 => ?_
  simp only [bL, ↓bO, bS, bA, bF, ↓reduceIte, Nat.reduceEqDiff, reduceCtorEq, List.length_map, Nat.reduceAdd, Nat.reduceLeDiff, Int.toNat_natCast, Int.natCast_nonneg, hi0]
  refine hC16 _ ?_; clear hC16 C16
  simp only [bL]
  refine aops_chunk 1 fun C17 hC17 => ?_
  simp only [bL, ↓bO, bS, bA, bF, ↓reduceIte, Nat.reduceEqDiff, reduceCtorEq, List.length_map, Nat.reduceAdd, Nat.reduceLeDiff, Int.toNat_natCast, Int.natCast_nonneg, hi0]
  refine hC17 _ ?_; clear hC17 C17
  simp only [bL]
  refine aops_chunk 1 fun C18 hC18 => ?_
  simp only [bL, ↓bO, bS, bA, bF, ↓reduceIte, Nat.reduceEqDiff, reduceCtorEq, aCallV, List.length_map, Nat.reduceAdd, Nat.reduceLeDiff, Int.toNat_natCast, Int.natCast_nonneg, hi0]
  refine CCalls.at (root_c S hF i (by omega)) (.cons (.v _) .nil) (fun _ => .v _) (i0 := 0) (i1 := 1) (i2 := 2) (i3 := 3) (i4 := 4) (i5 := 5) (i6 := 6) (i7 := 7) (by decide) (by simp) ⟨rfl, rfl, rfl, rfl, rfl, rfl, rfl, rfl, trivial⟩ (fun S1 r hS1 => ?_)
  try dsimp only at hS1
  simp only [cObsAt, List.zip_cons_cons, List.zip_nil_left, List.zip_nil_right, putsO, putO, Nat.reduceEqDiff, ↓reduceIte]
  obtain ⟨hfs, hrt, hS1e⟩ := hS1
  have hrl := hrt.lt'
  have hrl2 := hrt.lt
  obtain ⟨x, hx⟩ : ∃ x, S.W[r]? = some x := ⟨_, List.getElem?_eq_getElem (by omega)⟩
  have hx1 : S1.W[r]? = some x := by rw [hS1e]; exact hx
  try simp only [bS, bA, bF]
  refine hC18 _ ?_; clear hC18 C18
  simp only [bL]
  refine aops_chunk 1 fun C19 hC19 => ?_
  simp only [bL, ↓bO, bS, bA, bF, ↓reduceIte, Nat.reduceEqDiff, reduceCtorEq, aBuild, zc61, pc61, aFill, splice, Nat.reduceAdd, Nat.reduceLeDiff, List.length_map, Int.toNat_natCast, Int.natCast_nonneg, hi0]
  refine hC19 _ ?_; clear hC19 C19
  simp only [bL]
  refine aops_chunk 1 fun C20 hC20 => ?_
  simp only [bL, ↓bO, bS, bA, bF, ↓reduceIte, Nat.reduceEqDiff, reduceCtorEq, aCallV, List.length_map, Nat.reduceAdd, Nat.reduceLeDiff, Int.toNat_natCast, Int.natCast_nonneg, hi0]
  refine ACalls.mono (show ACalls Try.prog 35 _ (enumO 0 (cObs S1)) 8 _ from PKind_c S1 (by rw [hS1e]; exact hw) r x hx1) ?_
  rintro z os' nx' ⟨⟨s9, ⟨hs9, hk9⟩, rfl, rfl⟩, rfl⟩
  obtain rfl : S1 = s9.1 := hs9.symm
  simp only [cObs, enumO, Nat.reduceAdd]
  try simp only [bS, bA, bF]
  refine hC20 _ ?_; clear hC20 C20
  simp only [bL]
  simp only [↓bO, bS, bA, bF, ↓reduceIte, Nat.reduceEqDiff, reduceCtorEq, List.length_map, bL, Nat.reduceAdd, Nat.reduceLeDiff, Int.toNat_natCast, Int.natCast_nonneg, hi0]
  refine hK14 _ ?_; try clear hK14 K14
  refine AWp_ret ?_
  try simp only [bF, retQ, aRes, tupOf, bS, bA]
  refine ⟨_, enumO 0 (cObs (s9.1)), ⟨(s9.1, s9.2), ?_, rfl, rfl⟩, .v _ _, cUnd (by omega) _, ?_, ?_, by omega⟩
  · exact ⟨hfs, hS1e, .inr ⟨hcs, _, r, x, hvi, hrt, hx, by rw [hS1e] at hk9; exact hk9⟩⟩
  ·
   exact Le.refl _
  · first | (refine ⟨0, rfl, rfl⟩) | (refine ⟨0, by simp only [cObs, enumO, List.drop_zero, List.drop_succ_cons, Nat.reduceAdd], rfl⟩)
end Go.Proofs.Ytjjjckjebkmnjaa
