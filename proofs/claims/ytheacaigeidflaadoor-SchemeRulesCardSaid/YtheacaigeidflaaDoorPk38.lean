/- Texts of the abstract walk, of the contracts and of the plain laws, packed (part 38 of 44): Rob2 Rob3 Sc1 Sc2 Great Sc3 SolH Sc4 McT Rob4 Fng So2 Rob5 Sc5 Sc6 Sc7 Sc8 Sc9. Conditions: none. -/
import Derived.Test.YtheacaigeidflaaDoorPk37
namespace Go.Proofs.YtheacaigeidflaaDoor
open Go Go.RowKit
set_option maxRecDepth 100000
set_option maxHeartbeats 4000000
set_option linter.unusedSimpArgs false
set_option linter.unusedVariables false
attribute [local irreducible] aops dRun
theorem APure.le {P : Program} {f : Nat} {args args' : List AV} {x : AV} (h : APure P f args' x) (hl : LeL args args') (hd : DataL args) : APure P f args x := ⟨hd, h.2.1, h.2.2.args hl⟩
def sv (l : List Int) : List (Int × AV) := l.map fun n => (n, .v (.int .i64 1))
theorem sv_nil : sv [] = [] := rfl
theorem sv_data (l : List Int) : ∀ p ∈ sv l, Data p.2 := fun p hp => by
  obtain ⟨n, _, rfl⟩ := List.mem_map.1 hp
  exact .v _
def seenN (l : List Int) (k : Int) : Int := if l.any (fun x => x == k) then 1 else 0
theorem aFind_sv (k : Int) : ∀ l : List Int, (aFind (sv l) k).getD (.v (.int .i64 0)) = .v (.int .i64 (seenN l k))
  | [] => rfl
  | x :: l => by
    have := aFind_sv k l
    simp only [sv, List.map_cons, aFind, seenN, List.any_cons] at this ⊢
    by_cases h : x = k
    · simp [h]
    · have hb : (x == k) = false := by simpa using h
      rw [if_neg h, this]; simp [hb]
theorem aSet_sv {k : Int} : ∀ {l : List Int}, (l.any fun x => x == k) = false → aSet (sv l) k (.v (.int .i64 1)) = sv (l ++ [k])
  | [], _ => rfl
  | x :: l, h => by
    simp only [List.any_cons, Bool.or_eq_false_iff, beq_eq_false_iff_ne] at h
    have := aSet_sv (l := l) h.2
    simp only [sv, List.map_cons, aSet, List.cons_append, if_neg h.1] at this ⊢
    rw [this]
theorem wrap1 : IntKind.i64.wrap 1 = 1 := wrap_in (by omega) (by omega)
def sObs (l : List Int) : List Ob := [.map (sv l), .cells 91 [.map 0], .cells 22 [.osl 3 1 (l.map intC)], .tok 3 1 l.length]
def SCalls (f : Nat) (args : List AV) (l : List Int) (R : AV) (l1 : List Int) : Prop :=
  ACalls Tryd.prog f args (enumO 0 (sObs l)) 4 fun r os n => (r = R ∧ os = enumO 0 (sObs l1)) ∧ n = 4
theorem und_intsD (n : Nat) (l : List Int) : Und n (.sl 1 (l.map intC)) := .data (dataInts l)
theorem sUnd {n : Nat} (h : 4 ≤ n) (l : List Int) : UndOs n (enumO 0 (sObs l)) :=
  ⟨by omega, fun p hp => .data (sv_data l p hp), by omega, ⟨.map (by omega), trivial⟩, by omega, ⟨.osl (by omega) (und_intsD n l), trivial⟩, by omega, trivial, trivial⟩
theorem Und.sv {n : Nat} (l : List Int) : (∀ p ∈ Go.Proofs.YtheacaigeidflaaDoor.sv l, Und n p.2) = True := eq_true fun p hp => .data (sv_data l p hp)
theorem Und.oslN {n id : Nat} {l : List Int} (h : id < n) : Und n (.osl id 1 (l.map intC)) := .osl h (und_intsD n l)
theorem Und.cloV {n : Nat} (h : 3 ≤ n) : Und n (.clo 63 [.ptr 1 0, .ptr 2 0]) := .clo ⟨.ptr (by omega), .ptr (by omega), trivial⟩
theorem renS (l : List Int) (nx : Nat) : RenOs (renOf [0, 1, 2, 3] nx) 0 (sObs l) (sObs l) :=
  ⟨.map (sv_data l), .cells ⟨.map rfl, trivial⟩, .cells ⟨.osl rfl (fun x hx => by obtain ⟨y, _, rfl⟩ := List.mem_map.1 hx; exact .cons (.v _) .nil), trivial⟩, .tok, trivial⟩
theorem SCalls.at {f : Nat} {args : List AV} {l l1 : List Int} {R : AV} (h : SCalls f args l R l1) (hargs : ∀ nx, RenL (renOf [0, 1, 2, 3] nx) args args) (hR : Data R) {os' : Os} {nx' : Nat}
    (h0 : getO os' 0 = some (.map (sv l))) (h1 : getO os' 1 = some (.cells 91 [.map 0])) (h2 : getO os' 2 = some (.cells 22 [.osl 3 1 (l.map intC)])) (h3 : getO os' 3 = some (.tok 3 1 l.length)) (hn : 4 ≤ nx') {Q' : AV → Os → Nat → Prop}
    (hq : Q' R (putO (putO (putO (putO os' 0 (.map (sv l1))) 1 (.cells 91 [.map 0])) 2 (.cells 22 [.osl 3 1 (l1.map intC)])) 3 (.tok 3 1 l1.length)) nx') : ACalls Tryd.prog f args os' nx' Q' := by
  refine ACalls.at (args := args) (obs := sObs l) (obs1 := sObs l1) (obs' := sObs l) (obs1' := sObs l1) [0, 1, 2, 3] ?_ rfl rfl (by decide) (by simp; omega) (hargs _) (.data hR) (renS l _) ⟨h0, h1, h2, h3, trivial⟩ (renS l1 _) hq
  exact h.mono fun r os n ⟨⟨h1, h2⟩, h3⟩ => ⟨h1, h2, h3⟩
theorem dataTup0 : Data (.tup []) := .tup (fun _ h => by cases h)
theorem Vars1_calls (T : Ty) (l : List Int) (hl : l.length + 1 ≤ 1099511627776) : SCalls 63 [.agg T.cells, .ptr 1 0, .ptr 2 0] (l) (.tup []) ((if T.k = 1 then addV l T.n else l)) := by
  refine ACalls.clean (C := fun r os => r = _ ∧ os = _) ?_
  refine ACalls_intro Tryd.func63 (by kernel_rfl) rfl (by rw [Tryd.ntmps63]; simp) (fun hm => ?_)
  simp only [Tryd.ntmps63, Tryd.results63, List.length_cons, List.length_nil, Nat.reduceAdd, Nat.reduceSub, List.replicate_succ, List.replicate_zero, List.cons_append, List.nil_append]
  simp only [sObs, enumO, Nat.reduceAdd]
  simp only [Ty.cells_eq T, List.cons_append, List.nil_append]
  have h9 := addV_cases T.k T.n l
  have hb1 : (l.length + 1) * 8 ≤ 140737488355328 := by omega
  have hb2 : l.length + 1 ≤ maxLen := by simp only [maxLen]; omega
  refine AWp_seqK fun Y0 y0 => ?_
  refine AWp_region ?_
  simp only [↓bO, go_sem, seval, aFind_sv]
  refine y0 _ ?_
  try clear y0 Y0
  refine AWp_seqK fun Y0 y0 => ?_
  refine AWp_region ?_
  refine aops_chunk 4 fun Q0 q0 => ?_
  simp only [↓bO, go_sem, seval, aFind_sv]
  refine q0 _ ?_
  clear q0 Q0
  simp only [go_sem]
  refine aops_case 7 rfl (fun hc7 => ?_) (fun hc7 => ?_)
  ·
   simp only [List.set_cons_zero, List.set_cons_succ]
   have hk1 : T.k = 1 := by simpa using hc7
   refine aops_chunk 4 fun Q0 q0 => ?_
   simp only [↓bO, go_sem, seval, aFind_sv]
   refine q0 _ ?_
   clear q0 Q0
   simp only [go_sem]
   simp only [↓bO, go_sem, seval, aFind_sv]
   refine y0 _ ?_
   try clear y0 Y0
   refine AWp_cond rfl (fun hb13 => ?_) (fun hb13 => ?_)
   ·
    have ha : (l.any fun x => x == T.n) = false := by cases hv : (l.any fun x => x == T.n) with | false => rfl | true => simp [seenN, hv] at hb13
    have hs0 : seenN l T.n = 0 := by simp [seenN, ha]
    have he : (if T.k = 1 then addV l T.n else l) = l ++ [T.n] := h9.1 hk1 ha
    refine AWp_seqK fun Y0 y0 => ?_
    refine AWp_region ?_
    refine aops_chunk 4 fun Q0 q0 => ?_
    simp only [↓bO, go_sem, seval, aFind_sv, hs0, aSet_sv ha, Int.zero_add, wrap1, hb1, hb2]
    refine q0 _ ?_
    clear q0 Q0
    simp only [go_sem]
    simp only [↓bO, go_sem, seval, aFind_sv, hs0, aSet_sv ha, Int.zero_add, wrap1, hb1, hb2]
    refine y0 _ ?_
    try clear y0 Y0
    refine AWp_region ?_
    refine aops_chunk 4 fun Q0 q0 => ?_
    simp only [↓bO, go_sem, seval, ↓bs1_1, ↓bs1_2, ↓bs1_3, ↓bs1_4, ↓bs1_5, ↓bs1_6, ↓bs1_7, ↓bs1_8, ↓bs1_9, ↓bs1_10, ↓bs1_11, ↓bs1_12, aFind_sv, hs0, aSet_sv ha, Int.zero_add, wrap1, hb1, hb2]
    refine q0 _ ?_
    clear q0 Q0
    simp only [go_sem]
    simp only [↓bO, go_sem, seval, aFind_sv, hs0, aSet_sv ha, Int.zero_add, wrap1, hb1, hb2]
    try simp only [thenQ, blockQ, noGotoQ, retQ, aRes, tupOf, bS, bA]
    rw [he]
    refine ⟨.tup [], enumO 0 (sObs (l ++ [T.n])), ⟨rfl, rfl⟩, .tup trivial, sUnd (by omega) _, ?_, ?_, by omega⟩
    ·
     refine Le.of_eq ?_
     rfl
    · first | (refine ⟨1, ?_, rfl⟩; first | rfl | (simp only [sObs, enumO, List.drop_succ_cons, List.drop_zero, List.map_append, List.map_cons, List.map_nil, List.length_append, List.length_cons, List.length_nil, Nat.reduceAdd, Nat.zero_add, intC, List.take_length]; done))
   ·
    have ha : (l.any fun x => x == T.n) = true := by cases hv : (l.any fun x => x == T.n) with | true => rfl | false => simp [seenN, hv] at hb13
    have he : (if T.k = 1 then addV l T.n else l) = l := h9.2.1 ha
    refine AWp_skip ?_
    try simp only [thenQ, blockQ, noGotoQ]
    try simp only [thenQ, blockQ, noGotoQ, retQ, aRes, tupOf, bS, bA]
    rw [he]
    refine ⟨.tup [], enumO 0 (sObs (l)), ⟨rfl, rfl⟩, .tup trivial, sUnd (by omega) _, ?_, ?_, by omega⟩
    ·
     refine Le.of_eq ?_
     rfl
    · first | (refine ⟨1, ?_, rfl⟩; first | rfl | (simp only [sObs, enumO, List.drop_succ_cons, List.drop_zero, List.map_append, List.map_cons, List.map_nil, List.length_append, List.length_cons, List.length_nil, Nat.reduceAdd, Nat.zero_add, intC, List.take_length]; done))
  ·
   simp only [List.set_cons_zero, List.set_cons_succ]
   have hk1 : ¬ T.k = 1 := by simpa using hc7
   have he : (if T.k = 1 then addV l T.n else l) = l := h9.2.2 hk1
   refine aops_chunk 4 fun Q0 q0 => ?_
   simp only [↓bO, go_sem, seval, aFind_sv]
   refine q0 _ ?_
   clear q0 Q0
   simp only [go_sem]
   simp only [↓bO, go_sem, seval, aFind_sv]
   refine y0 _ ?_
   try clear y0 Y0
   refine AWp_cond (b := false) (by first | exact rfl | exact congrArg (fun b => AV.v (.bool b)) hb13) (fun h => (by cases h)) (fun _ => ?_)
   refine AWp_skip ?_
   try simp only [thenQ, blockQ, noGotoQ]
   try simp only [thenQ, blockQ, noGotoQ, retQ, aRes, tupOf, bS, bA]
   rw [he]
   refine ⟨.tup [], enumO 0 (sObs (l)), ⟨rfl, rfl⟩, .tup trivial, sUnd (by omega) _, ?_, ?_, by omega⟩
   ·
    refine Le.of_eq ?_
    rfl
   · first | (refine ⟨1, ?_, rfl⟩; first | rfl | (simp only [sObs, enumO, List.drop_succ_cons, List.drop_zero, List.map_append, List.map_cons, List.map_nil, List.length_append, List.length_cons, List.length_nil, Nat.reduceAdd, Nat.zero_add, intC, List.take_length]; done))
theorem each_calls : ∀ (T : Ty) (l : List Int), l.length + T.cnt ≤ 1099511627776 → SCalls 62 [.agg T.cells, .clo 63 [.ptr 1 0, .ptr 2 0]] (l) (.tup []) (T.rvars l) := by
  refine Ty.ind fun T ih l hl => ?_
  refine ACalls.clean (C := fun r os => r = _ ∧ os = _) ?_
  refine ACalls_intro Tryd.func62 (by kernel_rfl) rfl (by rw [Tryd.ntmps62]; simp) (fun hm => ?_)
  simp only [Tryd.ntmps62, Tryd.results62, List.length_cons, List.length_nil, Nat.reduceAdd, Nat.reduceSub, List.replicate_succ, List.replicate_zero, List.cons_append, List.nil_append]
  simp only [sObs, enumO, Nat.reduceAdd]
  simp only [Ty.cells_eq T, List.cons_append, List.nil_append]
  have hm1 := T.cnt_eq
  have hcl := Ty.cntL_len T.ps
  have hv1 := by have h9 := Vars1_calls T l (by omega); rw [Ty.cells_eq T] at h9; exact h9
  have hl0 : (if T.k = 1 then addV l T.n else l).length ≤ l.length + 1 := by split <;> first | exact addV_len l T.n | omega
  refine AWp_seqK fun Y0 y0 => ?_
  refine AWp_region ?_
  simp only [↓bO, go_sem, seval]
  refine y0 _ ?_
  try clear y0 Y0
  refine AWp_seqK fun Y0 y0 => ?_
  refine AWp_region ?_
  refine aops_chunk 2 fun Q0 q0 => ?_
  simp only [↓bO, go_sem, seval]
  refine q0 _ ?_
  clear q0 Q0
  simp only [go_sem]
  simp only [↓bO, go_sem, seval]
  refine SCalls.at (hv1) (fun _ => ⟨.data (by rw [← Ty.cells_eq]; exact T.dataAgg), .ptr rfl, .ptr rfl, trivial⟩) dataTup0 rfl rfl rfl rfl (by first | omega | (simp only; omega)) ?_
  simp only [putO, Nat.reduceEqDiff, ↓reduceIte]
  try simp only [bS, bA, thenQ, blockQ, noGotoQ]
  refine y0 _ ?_
  try clear y0 Y0
  refine AWp_seqK fun Y0 y0 => ?_
  refine AWp_region ?_
  simp only [↓bO, go_sem, seval]
  refine y0 _ ?_
  try clear y0 Y0
  refine AWp_block ?_
  refine AWp_loopM (σ := Nat) (mB 20 7170) (fun s => s ≤ T.ps.length) (fun s => [(12, .v (.int .i64 (s : Int)))]) (fun s => [(0, .map (sv (Ty.rvarsL (T.ps.take s) (if T.k = 1 then addV l T.n else l)))), (2, .cells 22 [.osl 3 1 ((Ty.rvarsL (T.ps.take s) (if T.k = 1 then addV l T.n else l)).map intC)]), (3, .tok 3 1 (Ty.rvarsL (T.ps.take s) (if T.k = 1 then addV l T.n else l)).length)]) (fun s => T.ps.length - s) 0 (by omega) ?_ (fun s hs => ?_)
  ·
   simp only [maskL, setsL, putsO, putO, mB, List.set_cons_zero, List.set_cons_succ, seval, bL, Ty.rvarsL]
   exact Weak.mk (by simp only [go_sem, Le.refl, Le.any, Le.slNil, Int.natCast_add, Int.cast_ofNat_Int, Int.natCast_one]) (fun _ _ h => h) rfl rfl
  simp only [maskL, setsL, putsO, putO, mB, List.set_cons_zero, List.set_cons_succ, seval]
  refine AWp_seqK fun Y0 y0 => ?_
  refine AWp_region ?_
  simp only [↓bO, go_sem, seval]
  refine y0 _ ?_
  try clear y0 Y0
  refine AWp_seqK fun Y0 y0 => ?_
  refine AWp_cond rfl (fun hb13 => ?_) (fun hb13 => ?_)
  ·
   have hk : s < T.ps.length := by simpa using hb13
   obtain ⟨p, hp⟩ : ∃ p, T.ps[s]? = some p := ⟨_, List.getElem?_eq_getElem hk⟩
   have hpc := Ty.cntL_step hp
   have hvl := Ty.rvarsL_len (T.ps.take s) (if T.k = 1 then addV l T.n else l)
   have hw : IntKind.i64.wrap ((s : Int) + 1) = (s : Int) + 1 := wrap_in (by omega) (by omega)
   refine AWp_skip ?_
   try simp only [thenQ, blockQ, noGotoQ]
   refine y0 _ ?_
   try clear y0 Y0
   refine AWp_seqK fun Y0 y0 => ?_
   refine AWp_block ?_
   refine AWp_seqK fun Y1 y1 => ?_
   refine AWp_region ?_
   simp only [↓bO, go_sem, seval, hk, gM hp, Int.natCast_add, hw, Ty.rvarsL_step hp]
   refine y1 _ ?_
   try clear y1 Y1
   refine AWp_region ?_
   refine aops_chunk 2 fun Q0 q0 => ?_
   simp only [↓bO, go_sem, seval, hk, gM hp, Int.natCast_add, hw, Ty.rvarsL_step hp]
   refine q0 _ ?_
   clear q0 Q0
   simp only [go_sem]
   simp only [↓bO, go_sem, seval, hk, gM hp, Int.natCast_add, hw, Ty.rvarsL_step hp]
   refine SCalls.at (ih p (List.mem_of_getElem? hp) (Ty.rvarsL (T.ps.take s) (if T.k = 1 then addV l T.n else l)) (by omega)) (fun _ => ⟨.data (Ty.dataAgg p), .clo ⟨.ptr rfl, .ptr rfl, trivial⟩, trivial⟩) dataTup0 rfl rfl rfl rfl (by first | omega | (simp only; omega)) ?_
   simp only [putO, Nat.reduceEqDiff, ↓reduceIte]
   try simp only [bS, bA, thenQ, blockQ, noGotoQ]
   refine y0 _ ?_
   try clear y0 Y0
   refine AWp_region ?_
   simp only [↓bO, go_sem, seval, hk, gM hp, Int.natCast_add, hw, Ty.rvarsL_step hp]
   refine ⟨(s + 1), (by omega), by omega, ?_⟩
   simp only [maskL, setsL, putsO, putO, mB, List.set_cons_zero, List.set_cons_succ, seval, hk, gM hp, Int.natCast_add, Int.natCast_one, hw, Ty.rvarsL_step hp]
   first | (refine Weak.drops 1 5 rfl rfl (by simp only; omega) (by simp only; omega) ?_ ?_ ?_) | (refine Weak.drops 0 5 rfl rfl (by simp only; omega) (by simp only; omega) ?_ ?_ ?_)
   · simp only [go_sem, Le.refl, Le.any, Int.natCast_add, Int.cast_ofNat_Int, Int.natCast_one]
   · simp only [UndL, UndOs, Ob.Und, and_true, true_and, and_self, Und.v, Und.any, Und.ptr, Und.map, Nat.reduceLT, Nat.zero_lt_succ, Und.tys, Und.tyAgg, Und.oslTys, Und.oslTys1, Und.clo0, Und.ty, Und.sv, Und.oslN, Und.cloV, Nat.reduceLeDiff, UndL, Und.map]
   · simp only [UndL, UndOs, Ob.Und, and_true, true_and, and_self, Und.v, Und.any, Und.ptr, Und.map, Nat.reduceLT, Nat.zero_lt_succ, Und.tys, Und.tyAgg, Und.oslTys, Und.oslTys1, Und.clo0, Und.ty, Und.sv, Und.oslN, Und.cloV, Nat.reduceLeDiff, UndL, Und.map]
  ·
   have hk : s = T.ps.length := by simp at hb13; omega
   refine AWp_exit ?_
   simp only [thenQ, blockQ, noGotoQ, bA, Nat.reduceEqDiff, ↓reduceIte]
   try simp only [thenQ, blockQ, noGotoQ, retQ, aRes, tupOf, bS, bA]
   rw [Ty.rvars_eq, hk]
   simp only [List.take_length]
   refine ⟨.tup [], enumO 0 (sObs (Ty.rvarsL T.ps (if T.k = 1 then addV l T.n else l))), ⟨rfl, rfl⟩, .tup trivial, sUnd (by omega) _, ?_, ?_, by omega⟩
   ·
    refine Le.of_eq ?_
    rfl
   · first | (refine ⟨1, ?_, rfl⟩; first | rfl | (simp only [sObs, enumO, List.drop_succ_cons, List.drop_zero, List.map_append, List.map_cons, List.map_nil, List.length_append, List.length_cons, List.length_nil, Nat.reduceAdd, Nat.zero_add, intC, List.take_length]; done))
theorem Vars_pure (ps : List Ty) (hT : Ty.cntL ps ≤ 1099511627776) : APure Tryd.prog 33 [.sl 3 (ps.map Ty.cells)] (.sl 1 ((Ty.rvarsL ps []).map intC)) := by
  refine APure.mkL (.cons (Ty.dataSl ps) .nil) ((dataInts _)) ?_
  refine ACalls_intro Tryd.func33 (by kernel_rfl) rfl (by rw [Tryd.ntmps33]; simp) (fun hm => ?_)
  simp only [Tryd.ntmps33, Tryd.results33, List.length_cons, List.length_nil, Nat.reduceAdd, Nat.reduceSub, List.replicate_succ, List.replicate_zero, List.cons_append, List.nil_append]
  have hcl := Ty.cntL_len ps
  iterate 3 (refine AWp_seqK fun Y0 y0 => ?_; refine AWp_region ?_; simp only [↓bO, go_sem, seval]; refine y0 _ ?_; (try clear y0 Y0))
  refine AWp_seqK fun Y0 y0 => ?_
  refine AWp_seqK fun Y1 y1 => ?_
  refine AWp_region ?_
  simp only [↓bO, go_sem, seval]
  refine y1 _ ?_
  try clear y1 Y1
  refine AWp_block ?_
  refine AWp_weak (Weak.tokCell 3 1 (id := 2) (t := 22) [.osl 3 1 []] rfl ⟨.inr ⟨rfl, rfl⟩, trivial⟩) ?_
  simp only [putO, Nat.reduceEqDiff, ↓reduceIte]
  refine AWp_loopM (σ := Nat) (mB 19 1816) (fun s => s ≤ ps.length) (fun s => [(10, .v (.int .i64 (s : Int)))]) (fun s => [(0, .map (sv (Ty.rvarsL (ps.take s) []))), (2, .cells 22 [.osl 3 1 ((Ty.rvarsL (ps.take s) []).map intC)]), (3, .tok 3 1 (Ty.rvarsL (ps.take s) []).length)]) (fun s => ps.length - s) 0 (by omega) ?_ (fun s hs => ?_)
  ·
   simp only [maskL, setsL, putsO, putO, mB, List.set_cons_zero, List.set_cons_succ, seval, bL, Ty.rvarsL, sv_nil]
   exact Weak.mk (by simp only [go_sem, Le.refl, Le.any, Le.slNil, Int.natCast_add, Int.cast_ofNat_Int, Int.natCast_one]) (fun _ _ h => h) rfl rfl
  simp only [maskL, setsL, putsO, putO, mB, List.set_cons_zero, List.set_cons_succ, seval]
  refine AWp_seqK fun Y1 y1 => ?_
  refine AWp_region ?_
  simp only [↓bO, go_sem, seval]
  refine y1 _ ?_
  try clear y1 Y1
  refine AWp_seqK fun Y1 y1 => ?_
  refine AWp_cond rfl (fun hb11 => ?_) (fun hb11 => ?_)
  ·
   have hk : s < ps.length := by simpa using hb11
   obtain ⟨p, hp⟩ : ∃ p, ps[s]? = some p := ⟨_, List.getElem?_eq_getElem hk⟩
   have hpc := Ty.cntL_step hp
   have hvl := Ty.rvarsL_len (ps.take s) []
   simp only [List.length_nil] at hvl
   have hw : IntKind.i64.wrap ((s : Int) + 1) = (s : Int) + 1 := wrap_in (by omega) (by omega)
   refine AWp_skip ?_
   try simp only [thenQ, blockQ, noGotoQ]
   refine y1 _ ?_
   try clear y1 Y1
   refine AWp_seqK fun Y1 y1 => ?_
   refine AWp_block ?_
   refine AWp_seqK fun Y2 y2 => ?_
   refine AWp_region ?_
   simp only [↓bO, go_sem, seval, hk, gM hp, Int.natCast_add, hw, Ty.rvarsL_step hp]
   refine y2 _ ?_
   try clear y2 Y2
   refine AWp_region ?_
   refine aops_chunk 2 fun Q0 q0 => ?_
   simp only [↓bO, go_sem, seval, hk, gM hp, Int.natCast_add, hw, Ty.rvarsL_step hp]
   refine q0 _ ?_
   clear q0 Q0
   simp only [go_sem]
   simp only [↓bO, go_sem, seval, hk, gM hp, Int.natCast_add, hw, Ty.rvarsL_step hp]
   refine SCalls.at (each_calls p (Ty.rvarsL (ps.take s) []) (by omega)) (fun _ => ⟨.data (Ty.dataAgg p), .clo ⟨.ptr rfl, .ptr rfl, trivial⟩, trivial⟩) dataTup0 rfl rfl rfl rfl (by first | omega | (simp only; omega)) ?_
   simp only [putO, Nat.reduceEqDiff, ↓reduceIte]
   try simp only [bS, bA, thenQ, blockQ, noGotoQ]
   refine y1 _ ?_
   try clear y1 Y1
   refine AWp_region ?_
   simp only [↓bO, go_sem, seval, hk, gM hp, Int.natCast_add, hw, Ty.rvarsL_step hp]
   refine ⟨(s + 1), (by omega), by omega, ?_⟩
   simp only [maskL, setsL, putsO, putO, mB, List.set_cons_zero, List.set_cons_succ, seval, hk, gM hp, Int.natCast_add, Int.natCast_one, hw, Ty.rvarsL_step hp]
   first | (refine Weak.drops 1 4 rfl rfl (by simp only; omega) (by simp only; omega) ?_ ?_ ?_) | (refine Weak.drops 0 4 rfl rfl (by simp only; omega) (by simp only; omega) ?_ ?_ ?_)
   · simp only [go_sem, Le.refl, Le.any, Int.natCast_add, Int.cast_ofNat_Int, Int.natCast_one]
   · simp only [UndL, UndOs, Ob.Und, and_true, true_and, and_self, Und.v, Und.any, Und.ptr, Und.map, Nat.reduceLT, Nat.zero_lt_succ, Und.tys, Und.tyAgg, Und.oslTys, Und.oslTys1, Und.clo0, Und.ty, Und.sv, Und.oslN, Und.cloV, Nat.reduceLeDiff, UndL, Und.map, Und.tys]
   · simp only [UndL, UndOs, Ob.Und, and_true, true_and, and_self, Und.v, Und.any, Und.ptr, Und.map, Nat.reduceLT, Nat.zero_lt_succ, Und.tys, Und.tyAgg, Und.oslTys, Und.oslTys1, Und.clo0, Und.ty, Und.sv, Und.oslN, Und.cloV, Nat.reduceLeDiff, UndL, Und.map, Und.tys]
  ·
   have hk : s = ps.length := by simp at hb11; omega
   refine AWp_exit ?_
   simp only [thenQ, blockQ, noGotoQ, bA, Nat.reduceEqDiff, ↓reduceIte]
   refine y0 _ ?_
   try clear y0 Y0
   refine AWp_seqK fun Y0 y0 => ?_
   refine AWp_region ?_
   simp only [↓bO, go_sem, seval]
   refine y0 _ ?_
   try clear y0 Y0
   refine AWp_ret ?_
   try simp only [thenQ, blockQ, noGotoQ, retQ, aRes, tupOf, bS, bA]
   rw [hk, List.take_length]
   exact Le.oslL
theorem iD_data (l : List Int) : ∀ x ∈ l.map intC, DataL x := fun x hx => by
  obtain ⟨y, _, rfl⟩ := List.mem_map.1 hx; exact .cons (.v _) .nil
def oObs (l : List Int) : List Ob := [.map (sv l), .cells 91 [.map 0], .cells 22 [.own 3 l.length], .row 3 1 (l.map intC)]
def OCalls (f : Nat) (args : List AV) (l : List Int) (R : AV) (l1 : List Int) : Prop :=
  ACalls Tryd.prog f args (enumO 0 (oObs l)) 4 fun r os n => (r = R ∧ os = enumO 0 (oObs l1)) ∧ n = 4
theorem oUnd {n : Nat} (h : 4 ≤ n) (l : List Int) : UndOs n (enumO 0 (oObs l)) :=
  ⟨by omega, fun p hp => .data (sv_data l p hp), by omega, ⟨.map (by omega), trivial⟩, by omega, ⟨.own (by omega), trivial⟩, by omega, Und.rowI (iD_data l), trivial⟩
theorem Und.ownN {n id k : Nat} (h : id < n) : Und n (.own id k) = True := eq_true (.own h)
theorem Und.rowN {n : Nat} (l : List Int) : (∀ x ∈ l.map intC, UndL n x) = True := eq_true (Und.rowI (iD_data l))
theorem renW (l : List Int) (nx : Nat) : RenOs (renOf [0, 1, 2, 3] nx) 0 (oObs l) (oObs l) :=
  ⟨.map (sv_data l), .cells ⟨.map rfl, trivial⟩, .cells ⟨.own rfl, trivial⟩, .row (iD_data l), trivial⟩
theorem OCalls.at {f : Nat} {args : List AV} {l l1 : List Int} {R : AV} (h : OCalls f args l R l1) (hargs : ∀ nx, RenL (renOf [0, 1, 2, 3] nx) args args) (hR : Data R) {os' : Os} {nx' : Nat}
    (h0 : getO os' 0 = some (.map (sv l))) (h1 : getO os' 1 = some (.cells 91 [.map 0])) (h2 : getO os' 2 = some (.cells 22 [.own 3 l.length])) (h3 : getO os' 3 = some (.row 3 1 (l.map intC))) (hn : 4 ≤ nx') {Q' : AV → Os → Nat → Prop}
    (hq : Q' R (putO (putO (putO (putO os' 0 (.map (sv l1))) 1 (.cells 91 [.map 0])) 2 (.cells 22 [.own 3 l1.length])) 3 (.row 3 1 (l1.map intC))) nx') : ACalls Tryd.prog f args os' nx' Q' := by
  refine ACalls.at (args := args) (obs := oObs l) (obs1 := oObs l1) (obs' := oObs l) (obs1' := oObs l1) [0, 1, 2, 3] ?_ rfl rfl (by decide) (by simp; omega) (hargs _) (.data hR) (renW l _) ⟨h0, h1, h2, h3, trivial⟩ (renW l1 _) hq
  exact h.mono fun r os n ⟨⟨h1, h2⟩, h3⟩ => ⟨h1, h2, h3⟩
theorem OVars1_calls (T : Ty) (l : List Int) (hl : l.length + 1 ≤ 1099511627776) : OCalls 63 [.agg T.cells, .ptr 1 0, .ptr 2 0] (l) (.tup []) ((if T.k = 1 then addV l T.n else l)) := by
  refine ACalls.clean (C := fun r os => r = _ ∧ os = _) ?_
  refine ACalls_intro Tryd.func63 (by kernel_rfl) rfl (by rw [Tryd.ntmps63]; simp) (fun hm => ?_)
  simp only [Tryd.ntmps63, Tryd.results63, List.length_cons, List.length_nil, Nat.reduceAdd, Nat.reduceSub, List.replicate_succ, List.replicate_zero, List.cons_append, List.nil_append]
  simp only [oObs, enumO, Nat.reduceAdd]
  simp only [Ty.cells_eq T, List.cons_append, List.nil_append]
  have h9 := addV_cases T.k T.n l
  have hb1 : (l.length + 1) * 8 ≤ 140737488355328 := by omega
  have hb2 : l.length + 1 ≤ maxLen := by simp only [maxLen]; omega
  refine AWp_seqK fun Y0 y0 => ?_
  refine AWp_region ?_
  simp only [↓bO, go_sem, seval, aFind_sv]
  refine y0 _ ?_
  try clear y0 Y0
  refine AWp_seqK fun Y0 y0 => ?_
  refine AWp_region ?_
  refine aops_chunk 4 fun Q0 q0 => ?_
  simp only [↓bO, go_sem, seval, aFind_sv]
  refine q0 _ ?_
  clear q0 Q0
  simp only [go_sem]
  refine aops_case 7 rfl (fun hc7 => ?_) (fun hc7 => ?_)
  ·
   simp only [List.set_cons_zero, List.set_cons_succ]
   have hk1 : T.k = 1 := by simpa using hc7
   refine aops_chunk 4 fun Q0 q0 => ?_
   simp only [↓bO, go_sem, seval, aFind_sv]
   refine q0 _ ?_
   clear q0 Q0
   simp only [go_sem]
   simp only [↓bO, go_sem, seval, aFind_sv]
   refine y0 _ ?_
   try clear y0 Y0
   refine AWp_cond rfl (fun hb13 => ?_) (fun hb13 => ?_)
   ·
    have ha : (l.any fun x => x == T.n) = false := by cases hv : (l.any fun x => x == T.n) with | false => rfl | true => simp [seenN, hv] at hb13
    have hs0 : seenN l T.n = 0 := by simp [seenN, ha]
    have he : (if T.k = 1 then addV l T.n else l) = l ++ [T.n] := h9.1 hk1 ha
    refine AWp_seqK fun Y0 y0 => ?_
    refine AWp_region ?_
    refine aops_chunk 4 fun Q0 q0 => ?_
    simp only [↓bO, go_sem, seval, aFind_sv, hs0, aSet_sv ha, Int.zero_add, wrap1, hb1, hb2]
    refine q0 _ ?_
    clear q0 Q0
    simp only [go_sem]
    simp only [↓bO, go_sem, seval, aFind_sv, hs0, aSet_sv ha, Int.zero_add, wrap1, hb1, hb2]
    refine y0 _ ?_
    try clear y0 Y0
    refine AWp_region ?_
    refine aops_chunk 4 fun Q0 q0 => ?_
    simp only [↓bO, go_sem, seval, ↓bs1_1, ↓bs1_2, ↓bs1_3, ↓bs1_4, ↓bs1_5, ↓bs1_6, ↓bs1_7, ↓bs1_8, ↓bs1_9, ↓bs1_10, ↓bs1_11, ↓bs1_12, aFind_sv, hs0, aSet_sv ha, Int.zero_add, wrap1, hb1, hb2]
    refine q0 _ ?_
    clear q0 Q0
    simp only [go_sem]
    simp only [↓bO, go_sem, seval, aFind_sv, hs0, aSet_sv ha, Int.zero_add, wrap1, hb1, hb2]
    try simp only [thenQ, blockQ, noGotoQ, retQ, aRes, tupOf, bS, bA]
    rw [he]
    refine ⟨.tup [], enumO 0 (oObs (l ++ [T.n])), ⟨rfl, rfl⟩, .tup trivial, oUnd (by omega) _, ?_, ?_, by omega⟩
    ·
     refine Le.of_eq ?_
     rfl
    · first | (refine ⟨1, ?_, rfl⟩; first | rfl | (simp only [oObs, enumO, List.drop_succ_cons, List.drop_zero, List.map_append, List.map_cons, List.map_nil, List.length_append, List.length_cons, List.length_nil, Nat.reduceAdd, Nat.zero_add, intC, List.take_length]; done))
   ·
    have ha : (l.any fun x => x == T.n) = true := by cases hv : (l.any fun x => x == T.n) with | true => rfl | false => simp [seenN, hv] at hb13
    have he : (if T.k = 1 then addV l T.n else l) = l := h9.2.1 ha
    refine AWp_skip ?_
    try simp only [thenQ, blockQ, noGotoQ]
    try simp only [thenQ, blockQ, noGotoQ, retQ, aRes, tupOf, bS, bA]
    rw [he]
    refine ⟨.tup [], enumO 0 (oObs (l)), ⟨rfl, rfl⟩, .tup trivial, oUnd (by omega) _, ?_, ?_, by omega⟩
    ·
     refine Le.of_eq ?_
     rfl
    · first | (refine ⟨1, ?_, rfl⟩; first | rfl | (simp only [oObs, enumO, List.drop_succ_cons, List.drop_zero, List.map_append, List.map_cons, List.map_nil, List.length_append, List.length_cons, List.length_nil, Nat.reduceAdd, Nat.zero_add, intC, List.take_length]; done))
  ·
   simp only [List.set_cons_zero, List.set_cons_succ]
   have hk1 : ¬ T.k = 1 := by simpa using hc7
   have he : (if T.k = 1 then addV l T.n else l) = l := h9.2.2 hk1
   refine aops_chunk 4 fun Q0 q0 => ?_
   simp only [↓bO, go_sem, seval, aFind_sv]
   refine q0 _ ?_
   clear q0 Q0
   simp only [go_sem]
   simp only [↓bO, go_sem, seval, aFind_sv]
   refine y0 _ ?_
   try clear y0 Y0
   refine AWp_cond (b := false) (by first | exact rfl | exact congrArg (fun b => AV.v (.bool b)) hb13) (fun h => (by cases h)) (fun _ => ?_)
   refine AWp_skip ?_
   try simp only [thenQ, blockQ, noGotoQ]
   try simp only [thenQ, blockQ, noGotoQ, retQ, aRes, tupOf, bS, bA]
   rw [he]
   refine ⟨.tup [], enumO 0 (oObs (l)), ⟨rfl, rfl⟩, .tup trivial, oUnd (by omega) _, ?_, ?_, by omega⟩
   ·
    refine Le.of_eq ?_
    rfl
   · first | (refine ⟨1, ?_, rfl⟩; first | rfl | (simp only [oObs, enumO, List.drop_succ_cons, List.drop_zero, List.map_append, List.map_cons, List.map_nil, List.length_append, List.length_cons, List.length_nil, Nat.reduceAdd, Nat.zero_add, intC, List.take_length]; done))
theorem Oeach_calls : ∀ (T : Ty) (l : List Int), l.length + T.cnt ≤ 1099511627776 → OCalls 62 [.agg T.cells, .clo 63 [.ptr 1 0, .ptr 2 0]] (l) (.tup []) (T.rvars l) := by
  refine Ty.ind fun T ih l hl => ?_
  refine ACalls.clean (C := fun r os => r = _ ∧ os = _) ?_
  refine ACalls_intro Tryd.func62 (by kernel_rfl) rfl (by rw [Tryd.ntmps62]; simp) (fun hm => ?_)
  simp only [Tryd.ntmps62, Tryd.results62, List.length_cons, List.length_nil, Nat.reduceAdd, Nat.reduceSub, List.replicate_succ, List.replicate_zero, List.cons_append, List.nil_append]
  simp only [oObs, enumO, Nat.reduceAdd]
  simp only [Ty.cells_eq T, List.cons_append, List.nil_append]
  have hm1 := T.cnt_eq
  have hcl := Ty.cntL_len T.ps
  have hv1 := by have h9 := OVars1_calls T l (by omega); rw [Ty.cells_eq T] at h9; exact h9
  have hl0 : (if T.k = 1 then addV l T.n else l).length ≤ l.length + 1 := by split <;> first | exact addV_len l T.n | omega
  refine AWp_seqK fun Y0 y0 => ?_
  refine AWp_region ?_
  simp only [↓bO, go_sem, seval]
  refine y0 _ ?_
  try clear y0 Y0
  refine AWp_seqK fun Y0 y0 => ?_
  refine AWp_region ?_
  refine aops_chunk 2 fun Q0 q0 => ?_
  simp only [↓bO, go_sem, seval]
  refine q0 _ ?_
  clear q0 Q0
  simp only [go_sem]
  simp only [↓bO, go_sem, seval]
  refine OCalls.at (hv1) (fun _ => ⟨.data (by rw [← Ty.cells_eq]; exact T.dataAgg), .ptr rfl, .ptr rfl, trivial⟩) dataTup0 rfl rfl rfl rfl (by first | omega | (simp only; omega)) ?_
  simp only [putO, Nat.reduceEqDiff, ↓reduceIte]
  try simp only [bS, bA, thenQ, blockQ, noGotoQ]
  refine y0 _ ?_
  try clear y0 Y0
  refine AWp_seqK fun Y0 y0 => ?_
  refine AWp_region ?_
  simp only [↓bO, go_sem, seval]
  refine y0 _ ?_
  try clear y0 Y0
  refine AWp_block ?_
  refine AWp_loopM (σ := Nat) (mB 20 7170) (fun s => s ≤ T.ps.length) (fun s => [(12, .v (.int .i64 (s : Int)))]) (fun s => [(0, .map (sv (Ty.rvarsL (T.ps.take s) (if T.k = 1 then addV l T.n else l)))), (2, .cells 22 [.own 3 (Ty.rvarsL (T.ps.take s) (if T.k = 1 then addV l T.n else l)).length]), (3, .row 3 1 ((Ty.rvarsL (T.ps.take s) (if T.k = 1 then addV l T.n else l)).map intC))]) (fun s => T.ps.length - s) 0 (by omega) ?_ (fun s hs => ?_)
  ·
   simp only [maskL, setsL, putsO, putO, mB, List.set_cons_zero, List.set_cons_succ, seval, bL, Ty.rvarsL]
   exact Weak.mk (by simp only [go_sem, Le.refl, Le.any, Le.slNil, Int.natCast_add, Int.cast_ofNat_Int, Int.natCast_one]) (fun _ _ h => h) rfl rfl
  simp only [maskL, setsL, putsO, putO, mB, List.set_cons_zero, List.set_cons_succ, seval]
  refine AWp_seqK fun Y0 y0 => ?_
  refine AWp_region ?_
  simp only [↓bO, go_sem, seval]
  refine y0 _ ?_
  try clear y0 Y0
  refine AWp_seqK fun Y0 y0 => ?_
  refine AWp_cond rfl (fun hb13 => ?_) (fun hb13 => ?_)
  ·
   have hk : s < T.ps.length := by simpa using hb13
   obtain ⟨p, hp⟩ : ∃ p, T.ps[s]? = some p := ⟨_, List.getElem?_eq_getElem hk⟩
   have hpc := Ty.cntL_step hp
   have hvl := Ty.rvarsL_len (T.ps.take s) (if T.k = 1 then addV l T.n else l)
   have hw : IntKind.i64.wrap ((s : Int) + 1) = (s : Int) + 1 := wrap_in (by omega) (by omega)
   refine AWp_skip ?_
   try simp only [thenQ, blockQ, noGotoQ]
   refine y0 _ ?_
   try clear y0 Y0
   refine AWp_seqK fun Y0 y0 => ?_
   refine AWp_block ?_
   refine AWp_seqK fun Y1 y1 => ?_
   refine AWp_region ?_
   simp only [↓bO, go_sem, seval, hk, gM hp, Int.natCast_add, hw, Ty.rvarsL_step hp]
   refine y1 _ ?_
   try clear y1 Y1
   refine AWp_region ?_
   refine aops_chunk 2 fun Q0 q0 => ?_
   simp only [↓bO, go_sem, seval, hk, gM hp, Int.natCast_add, hw, Ty.rvarsL_step hp]
   refine q0 _ ?_
   clear q0 Q0
   simp only [go_sem]
   simp only [↓bO, go_sem, seval, hk, gM hp, Int.natCast_add, hw, Ty.rvarsL_step hp]
   refine OCalls.at (ih p (List.mem_of_getElem? hp) (Ty.rvarsL (T.ps.take s) (if T.k = 1 then addV l T.n else l)) (by omega)) (fun _ => ⟨.data (Ty.dataAgg p), .clo ⟨.ptr rfl, .ptr rfl, trivial⟩, trivial⟩) dataTup0 rfl rfl rfl rfl (by first | omega | (simp only; omega)) ?_
   simp only [putO, Nat.reduceEqDiff, ↓reduceIte]
   try simp only [bS, bA, thenQ, blockQ, noGotoQ]
   refine y0 _ ?_
   try clear y0 Y0
   refine AWp_region ?_
   simp only [↓bO, go_sem, seval, hk, gM hp, Int.natCast_add, hw, Ty.rvarsL_step hp]
   refine ⟨(s + 1), (by omega), by omega, ?_⟩
   simp only [maskL, setsL, putsO, putO, mB, List.set_cons_zero, List.set_cons_succ, seval, hk, gM hp, Int.natCast_add, Int.natCast_one, hw, Ty.rvarsL_step hp]
   first | (refine Weak.drops 1 5 rfl rfl (by simp only; omega) (by simp only; omega) ?_ ?_ ?_) | (refine Weak.drops 0 5 rfl rfl (by simp only; omega) (by simp only; omega) ?_ ?_ ?_)
   · simp only [go_sem, Le.refl, Le.any, Int.natCast_add, Int.cast_ofNat_Int, Int.natCast_one]
   · simp only [UndL, UndOs, Ob.Und, and_true, true_and, and_self, Und.v, Und.any, Und.ptr, Und.map, Nat.reduceLT, Nat.zero_lt_succ, Und.tys, Und.tyAgg, Und.oslTys, Und.oslTys1, Und.clo0, Und.ty, Und.sv, Und.ownN, Und.rowN, Und.cloV, Nat.reduceLeDiff, UndL, Und.map]
   · simp only [UndL, UndOs, Ob.Und, and_true, true_and, and_self, Und.v, Und.any, Und.ptr, Und.map, Nat.reduceLT, Nat.zero_lt_succ, Und.tys, Und.tyAgg, Und.oslTys, Und.oslTys1, Und.clo0, Und.ty, Und.sv, Und.ownN, Und.rowN, Und.cloV, Nat.reduceLeDiff, UndL, Und.map]
  ·
   have hk : s = T.ps.length := by simp at hb13; omega
   refine AWp_exit ?_
   simp only [thenQ, blockQ, noGotoQ, bA, Nat.reduceEqDiff, ↓reduceIte]
   try simp only [thenQ, blockQ, noGotoQ, retQ, aRes, tupOf, bS, bA]
   rw [Ty.rvars_eq, hk]
   simp only [List.take_length]
   refine ⟨.tup [], enumO 0 (oObs (Ty.rvarsL T.ps (if T.k = 1 then addV l T.n else l))), ⟨rfl, rfl⟩, .tup trivial, oUnd (by omega) _, ?_, ?_, by omega⟩
   ·
    refine Le.of_eq ?_
    rfl
   · first | (refine ⟨1, ?_, rfl⟩; first | rfl | (simp only [oObs, enumO, List.drop_succ_cons, List.drop_zero, List.map_append, List.map_cons, List.map_nil, List.length_append, List.length_cons, List.length_nil, Nat.reduceAdd, Nat.zero_add, intC, List.take_length]; done))
theorem Weak.backOwn0 {st : St} (j k c : Nat) {sl' : List AV} {os' : Os} {n : Nat} (hij : st.n0 ≤ 0 ∧ st.n0 ≤ j ∧ 0 < st.nx ∧ j < st.nx) (hn : n ≤ st.nx) (h0 : st.n0 ≤ n) (h1 : LeL st.sl (sl'.set k (.own j c))) (hl : RenL (swapN 0 j) (sl'.set k (.own j c)) sl') (ho : OsFrom (swapN 0 j) st.os os') (h6 : UndL n sl') (h7 : UndOs n os') : Weak st ⟨sl', os', n, st.n0⟩ := Weak.back 0 j h1 hij hl ho hn h0 h6 h7
theorem OVars_calls (ps : List Ty) (hT : Ty.cntL ps ≤ 1099511627776) : ACalls Tryd.prog 33 [.sl 3 (ps.map Ty.cells)] [] 0 fun r os n => (r = .own 0 (Ty.rvarsL ps []).length ∧ os = [(0, .row 3 1 ((Ty.rvarsL ps []).map intC))]) ∧ n = 1 := by
  refine ACalls.cleanN (n := 1) (C := fun r os => r = _ ∧ os = _) (by omega) ?_
  refine ACalls_intro Tryd.func33 (by kernel_rfl) rfl (by rw [Tryd.ntmps33]; simp) (fun hm => ?_)
  simp only [Tryd.ntmps33, Tryd.results33, List.length_cons, List.length_nil, Nat.reduceAdd, Nat.reduceSub, List.replicate_succ, List.replicate_zero, List.cons_append, List.nil_append]
  have hcl := Ty.cntL_len ps
  iterate 3 (refine AWp_seqK fun Y0 y0 => ?_; refine AWp_region ?_; simp only [↓bO, go_sem, seval]; refine y0 _ ?_; (try clear y0 Y0))
  refine AWp_seqK fun Y0 y0 => ?_
  refine AWp_seqK fun Y1 y1 => ?_
  refine AWp_region ?_
  simp only [↓bO, go_sem, seval]
  refine y1 _ ?_
  try clear y1 Y1
  refine AWp_block ?_
  refine AWp_weak (Weak.rowCell 3 1 0 (id := 2) rfl rfl) ?_
  simp only [putO, Nat.reduceEqDiff, ↓reduceIte, List.set_cons_zero]
  refine AWp_loopM (σ := Nat) (mB 19 1816) (fun s => s ≤ ps.length) (fun s => [(10, .v (.int .i64 (s : Int)))]) (fun s => [(0, .map (sv (Ty.rvarsL (ps.take s) []))), (2, .cells 22 [.own 3 (Ty.rvarsL (ps.take s) []).length]), (3, .row 3 1 ((Ty.rvarsL (ps.take s) []).map intC))]) (fun s => ps.length - s) 0 (by omega) ?_ (fun s hs => ?_)
  ·
   simp only [maskL, setsL, putsO, putO, mB, List.set_cons_zero, List.set_cons_succ, seval, bL, Ty.rvarsL, sv_nil]
   exact Weak.mk (by simp only [go_sem, Le.refl, Le.any, Le.slNil, Int.natCast_add, Int.cast_ofNat_Int, Int.natCast_one]) (fun _ _ h => h) rfl rfl
  simp only [maskL, setsL, putsO, putO, mB, List.set_cons_zero, List.set_cons_succ, seval]
  refine AWp_seqK fun Y1 y1 => ?_
  refine AWp_region ?_
  simp only [↓bO, go_sem, seval]
  refine y1 _ ?_
  try clear y1 Y1
  refine AWp_seqK fun Y1 y1 => ?_
  refine AWp_cond rfl (fun hb11 => ?_) (fun hb11 => ?_)
  ·
   have hk : s < ps.length := by simpa using hb11
   obtain ⟨p, hp⟩ : ∃ p, ps[s]? = some p := ⟨_, List.getElem?_eq_getElem hk⟩
   have hpc := Ty.cntL_step hp
   have hvl := Ty.rvarsL_len (ps.take s) []
   simp only [List.length_nil] at hvl
   have hw : IntKind.i64.wrap ((s : Int) + 1) = (s : Int) + 1 := wrap_in (by omega) (by omega)
   refine AWp_skip ?_
   try simp only [thenQ, blockQ, noGotoQ]
   refine y1 _ ?_
   try clear y1 Y1
   refine AWp_seqK fun Y1 y1 => ?_
   refine AWp_block ?_
   refine AWp_seqK fun Y2 y2 => ?_
   refine AWp_region ?_
   simp only [↓bO, go_sem, seval, hk, gM hp, Int.natCast_add, hw, Ty.rvarsL_step hp]
   refine y2 _ ?_
   try clear y2 Y2
   refine AWp_region ?_
   refine aops_chunk 2 fun Q0 q0 => ?_
   simp only [↓bO, go_sem, seval, hk, gM hp, Int.natCast_add, hw, Ty.rvarsL_step hp]
   refine q0 _ ?_
   clear q0 Q0
   simp only [go_sem]
   simp only [↓bO, go_sem, seval, hk, gM hp, Int.natCast_add, hw, Ty.rvarsL_step hp]
   refine OCalls.at (Oeach_calls p (Ty.rvarsL (ps.take s) []) (by omega)) (fun _ => ⟨.data (Ty.dataAgg p), .clo ⟨.ptr rfl, .ptr rfl, trivial⟩, trivial⟩) dataTup0 rfl rfl rfl rfl (by first | omega | (simp only; omega)) ?_
   simp only [putO, Nat.reduceEqDiff, ↓reduceIte]
   try simp only [bS, bA, thenQ, blockQ, noGotoQ]
   refine y1 _ ?_
   try clear y1 Y1
   refine AWp_region ?_
   simp only [↓bO, go_sem, seval, hk, gM hp, Int.natCast_add, hw, Ty.rvarsL_step hp]
   refine ⟨(s + 1), (by omega), by omega, ?_⟩
   simp only [maskL, setsL, putsO, putO, mB, List.set_cons_zero, List.set_cons_succ, seval, hk, gM hp, Int.natCast_add, Int.natCast_one, hw, Ty.rvarsL_step hp]
   first | (refine Weak.drops 1 4 rfl rfl (by simp only; omega) (by simp only; omega) ?_ ?_ ?_) | (refine Weak.drops 0 4 rfl rfl (by simp only; omega) (by simp only; omega) ?_ ?_ ?_)
   · simp only [go_sem, Le.refl, Le.any, Int.natCast_add, Int.cast_ofNat_Int, Int.natCast_one]
   · simp only [UndL, UndOs, Ob.Und, and_true, true_and, and_self, Und.v, Und.any, Und.ptr, Und.map, Nat.reduceLT, Nat.zero_lt_succ, Und.tys, Und.tyAgg, Und.oslTys, Und.oslTys1, Und.clo0, Und.ty, Und.sv, Und.ownN, Und.rowN, Und.cloV, Nat.reduceLeDiff, UndL, Und.map, Und.tys]
   · simp only [UndL, UndOs, Ob.Und, and_true, true_and, and_self, Und.v, Und.any, Und.ptr, Und.map, Nat.reduceLT, Nat.zero_lt_succ, Und.tys, Und.tyAgg, Und.oslTys, Und.oslTys1, Und.clo0, Und.ty, Und.sv, Und.ownN, Und.rowN, Und.cloV, Nat.reduceLeDiff, UndL, Und.map, Und.tys]
  ·
   have hk : s = ps.length := by simp at hb11; omega
   refine AWp_exit ?_
   simp only [thenQ, blockQ, noGotoQ, bA, Nat.reduceEqDiff, ↓reduceIte]
   refine y0 _ ?_
   try clear y0 Y0
   refine AWp_joinZ (mB 19 4) ([(2, .own 0 (Ty.rvarsL ps []).length)]) [(0, .row 3 1 ((Ty.rvarsL ps []).map intC))] 1 (True) ?_ (fun hC => ?_)
   ·
    refine AWp_region ?_
    simp only [↓bO, go_sem, seval]
    try simp only [maskL, setsL, putsO, putO, mB, List.set_cons_zero, List.set_cons_succ, seval]
    first | refine ⟨trivial, ?_⟩ | skip
    rw [hk, List.take_length]
    refine Weak.backOwn0 3 2 (Ty.rvarsL ps []).length (by first | omega | (simp only; omega)) (by first | omega | (simp only; omega)) (by first | omega | (simp only; omega)) ?_ ?_ ?_ ?_ ?_
    · simp only [List.set_cons_zero, List.set_cons_succ, LeL, Le.refl, Le.any, and_self]
    ·
     simp only [List.set_cons_zero, List.set_cons_succ]
     repeat' first | exact trivial | exact .any | exact .v _ | exact .own rfl | exact .data (Ty.dataSl _) | (refine ⟨?_, ?_⟩)
    · exact ⟨⟨_, rfl, .row (iD_data _)⟩, trivial⟩
    · repeat' first | exact trivial | exact .any _ | exact .v _ _ | exact .own (by omega) | exact Und.data (Ty.dataSl _) | (refine ⟨?_, ?_⟩)
    · exact ⟨by omega, Und.rowI (iD_data _), trivial⟩
   simp only [maskL, setsL, putsO, putO, mB, List.set_cons_zero, List.set_cons_succ, seval]
   refine AWp_ret ?_
   try simp only [thenQ, blockQ, noGotoQ, retQ, aRes, tupOf, bS, bA]
   refine ⟨_, _, ⟨rfl, rfl⟩, .own (by omega), ⟨by omega, Und.rowI (iD_data _), trivial⟩, Le.refl _, ⟨0, rfl, rfl⟩, by omega⟩
theorem fil_step {f : Int → Bool} {ps : List Int} {s : Nat} {p : Int} (h : ps[s]? = some p) : (ps.take (s + 1)).filter f = if f p = true then (ps.take s).filter f ++ [p] else (ps.take s).filter f := by
  rw [List.take_add_one, h, List.filter_append]
  by_cases hp : f p = true
  · rw [if_pos hp]; simp [hp]
  · rw [if_neg hp]; simp [hp]
theorem fil_len (f : Int → Bool) (ps : List Int) (s : Nat) (hs : s ≤ ps.length) : ((ps.take s).filter f).length ≤ s :=
  Nat.le_trans (List.length_filter_le _ _) (by rw [List.length_take]; omega)
theorem fil_all {f : Int → Bool} {ps : List Int} {s : Nat} (h : ∀ (i : Nat) (p : Int), i < s → ps[i]? = some p → f p = true) : (ps.take s).filter f = ps.take s :=
  List.filter_eq_self.2 fun x hx => by
    obtain ⟨i, hi⟩ := List.mem_iff_getElem?.1 hx
    rw [List.getElem?_take] at hi
    split at hi
    · exact h i x (by assumption) hi
    · cases hi
def delR (F ps : List Int) : List Int := F ++ ps.drop F.length
theorem delR_len {F ps : List Int} (h : F.length ≤ ps.length) : (delR F ps).length = ps.length := by
  unfold delR; rw [List.length_append, List.length_drop]; omega
theorem delR_get {F ps : List Int} {j : Nat} (h : F.length ≤ j) : (delR F ps)[j]? = ps[j]? := by
  unfold delR
  rw [List.getElem?_append_right h, List.getElem?_drop]
  congr 1; omega
theorem delR_set {F ps : List Int} {v : Int} (h : F.length < ps.length) : (delR F ps).set F.length v = delR (F ++ [v]) ps := by
  unfold delR
  rw [List.set_append_right _ _ (Nat.le_refl _), Nat.sub_self, List.drop_eq_getElem_cons h, List.set_cons_zero, List.append_assoc]
  simp
theorem delR_end {F ps : List Int} (X : List (List AV)) : ((((delR F ps).map intC).take F.length) ++ X).take F.length = F.map intC := by
  unfold delR
  rw [List.map_append, List.take_append_of_le_length (by simp), List.take_of_length_le (by simp), List.take_append_of_le_length (by simp), List.take_of_length_le (by simp)]
theorem firstTrue (f : Int → Bool) (ps : List Int) : ∀ n : Nat, (∀ (i : Nat) (p : Int), i < n → ps[i]? = some p → f p = false) ∨ ∃ (i : Nat) (p : Int), ps[i]? = some p ∧ f p = true ∧ ∀ (j : Nat) (q : Int), j < i → ps[j]? = some q → f q = false
  | 0 => .inl fun i p hi => by omega
  | n + 1 => by
    rcases firstTrue f ps n with h | h
    · cases hp : ps[n]? with
      | none =>
        refine .inl fun i p hi hx => ?_
        rcases Nat.lt_or_ge i n with h1 | h1
        · exact h i p h1 hx
        · obtain rfl : i = n := by omega
          rw [hp] at hx; cases hx
      | some p =>
        cases hf : f p with
        | true => exact .inr ⟨n, p, hp, hf, h⟩
        | false =>
          refine .inl fun i q hi hx => ?_
          rcases Nat.lt_or_ge i n with h1 | h1
          · exact h i q h1 hx
          · obtain rfl : i = n := by omega
            rw [hp] at hx; cases hx; exact hf
    · exact .inr h
theorem idxI_cases (f : Int → Bool) (ps : List Int) : (idxI f ps = -1 ∧ ∀ (i : Nat) (p : Int), ps[i]? = some p → f p = false) ∨ ∃ (i : Nat) (p : Int), idxI f ps = (i : Int) ∧ ps[i]? = some p ∧ f p = true ∧ ∀ (j : Nat) (q : Int), j < i → ps[j]? = some q → f q = false := by
  rcases firstTrue f ps ps.length with h | ⟨i, p, h1, h2, h3⟩
  · have h9 : ∀ (i : Nat) (p : Int), ps[i]? = some p → f p = false := fun i p hp => h i p (List.getElem?_eq_some_iff.1 hp).1 hp
    exact .inl ⟨idxI_none fun i p _ => h9 i p, h9⟩
  · exact .inr ⟨i, p, idxI_some h1 h2 h3, h1, h2, h3⟩
theorem IndexO (ps : List Int) (g : Nat) (caps : List AV) (f : Int → Bool) (hl : ps.length ≤ 1099511627776) (hcd : DataL caps) (hf : ∀ p ∈ ps, APure Tryd.prog g (.v (.int .i64 p) :: caps) (.v (.bool (f p)))) : ACalls Tryd.prog 64 [.own 0 ps.length, .clo g caps] [(0, .row 3 1 (ps.map intC))] 1 fun r os n => (r = .v (.int .i64 (idxI f ps)) ∧ os = [(0, .row 3 1 (ps.map intC))]) ∧ n = 1 := by
  refine ACalls.clean (C := fun r os' => r = _ ∧ os' = _) ?_
  refine ACalls_intro Tryd.func64 (by kernel_rfl) rfl (by rw [Tryd.ntmps64]; simp) (fun hm => ?_)
  simp only [Tryd.ntmps64, Tryd.results64, List.length_cons, List.length_nil, Nat.reduceAdd, Nat.reduceSub, List.replicate_succ, List.replicate_zero, List.cons_append, List.nil_append]
  refine AWp_seqK fun Y0 y0 => ?_
  refine AWp_region ?_
  simp only [↓bO, go_sem, seval]
  refine y0 _ ?_
  try clear y0 Y0
  refine AWp_seqK fun Y0 y0 => ?_
  refine AWp_seqK fun Y1 y1 => ?_
  refine AWp_region ?_
  iterate 2 (refine aops_chunk 1 fun Q0 q0 => ?_; simp only [↓bO, go_sem, seval]; refine q0 _ ?_; clear q0 Q0; simp only [go_sem])
  simp only [↓bO, go_sem, seval]
  refine y1 _ ?_
  try clear y1 Y1
  refine AWp_block ?_
  refine AWp_loopM (σ := Nat) (mB 19 387) (fun s => s ≤ ps.length ∧ ∀ (i : Nat) (p : Int), i < s → ps[i]? = some p → f p = false) (fun s => [(8, .v (.int .i64 (s : Int)))]) (fun s => []) (fun s => ps.length - s) 0 (⟨by omega, fun i p hi => by omega⟩) ?_ (fun s hs => ?_)
  ·
   simp only [maskL, setsL, putsO, putO, mB, List.set_cons_zero, List.set_cons_succ, seval]
   exact Weak.mk (by simp only [go_sem, Le.refl, Le.any, Le.slNil, Int.natCast_add, Int.cast_ofNat_Int, Int.natCast_one]) (fun _ _ h => h) rfl rfl
  simp only [maskL, setsL, putsO, putO, mB, List.set_cons_zero, List.set_cons_succ, seval]
  refine AWp_seqK fun Y1 y1 => ?_
  refine AWp_region ?_
  simp only [↓bO, go_sem, seval]
  refine y1 _ ?_
  try clear y1 Y1
  refine AWp_seqK fun Y1 y1 => ?_
  refine AWp_cond rfl (fun hb9 => ?_) (fun hb9 => ?_)
  ·
   have hk : s < ps.length := by simpa using hb9
   obtain ⟨p, hp⟩ : ∃ p, ps[s]? = some p := ⟨_, List.getElem?_eq_getElem hk⟩
   have hw : IntKind.i64.wrap ((s : Int) + 1) = (s : Int) + 1 := wrap_in (by omega) (by omega)
   refine AWp_skip ?_
   try simp only [thenQ, blockQ, noGotoQ]
   refine y1 _ ?_
   try clear y1 Y1
   refine AWp_seqK fun Y1 y1 => ?_
   refine AWp_block ?_
   refine AWp_seqK fun Y2 y2 => ?_
   refine AWp_region ?_
   refine aops_chunk 1 fun Q0 q0 => ?_
   simp only [↓bO, go_sem, seval, hk, gM hp, Int.natCast_add, hw, intC]
   refine q0 _ ?_
   clear q0 Q0
   simp only [go_sem]
   simp only [↓bO, go_sem, seval, hk, gM hp, Int.natCast_add, hw, intC]
   refine y2 _ ?_
   try clear y2 Y2
   refine AWp_seqK fun Y2 y2 => ?_
   refine AWp_region ?_
   iterate 5 (refine aops_chunk 1 fun Q0 q0 => ?_; simp only [↓bO, go_sem, seval, hk, gM hp, Int.natCast_add, hw, intC]; refine q0 _ ?_; clear q0 Q0; simp only [go_sem])
   simp only [↓bO, go_sem, seval, hk, gM hp, Int.natCast_add, hw, intC]
   refine APure.call (hf p (List.mem_of_getElem? hp)) ?_
   try simp only [bS, bA, thenQ, blockQ, noGotoQ]
   refine y2 _ ?_
   try clear y2 Y2
   refine AWp_cond rfl (fun hb16 => ?_) (fun hb16 => ?_)
   ·
    refine AWp_seqK fun Y2 y2 => ?_
    refine AWp_region ?_
    refine aops_chunk 1 fun Q0 q0 => ?_
    simp only [↓bO, go_sem, seval, hk, gM hp, Int.natCast_add, hw, intC]
    refine q0 _ ?_
    clear q0 Q0
    simp only [go_sem]
    simp only [↓bO, go_sem, seval, hk, gM hp, Int.natCast_add, hw, intC]
    refine y2 _ ?_
    try clear y2 Y2
    refine AWp_ret ?_
    try simp only [thenQ, blockQ, noGotoQ, retQ, aRes, tupOf, bS, bA]
    refine ⟨_, _, ⟨rfl, rfl⟩, .v _ _, ⟨by omega, Und.rowI (iD_data _), trivial⟩, Le.of_eq (congrArg (fun n => AV.v (.int .i64 n)) ?_), ⟨0, rfl, rfl⟩, by omega⟩
    first | (rw [idxI_some hp (by exact hb16) hs.2]; done) | (rw [idxI_none (fun i p hi h1 => hs.2 i p (by omega) h1)]; done)
   ·
    refine AWp_skip ?_
    try simp only [thenQ, blockQ, noGotoQ]
    refine y1 _ ?_
    try clear y1 Y1
    refine AWp_region ?_
    refine aops_chunk 1 fun Q0 q0 => ?_
    simp only [↓bO, go_sem, seval, hk, gM hp, Int.natCast_add, hw, intC]
    refine q0 _ ?_
    clear q0 Q0
    simp only [go_sem]
    simp only [↓bO, go_sem, seval, hk, gM hp, Int.natCast_add, hw, intC]
    refine ⟨(s + 1), ⟨by omega, fun i p' hi h1 => (by rcases Nat.lt_or_ge i s with h3 | h3 <;> first | exact hs.2 i p' h3 h1 | (obtain rfl : i = s := (by omega); rw [hp] at h1; cases h1; exact hb16))⟩, by omega, ?_⟩
    simp only [maskL, setsL, putsO, putO, mB, List.set_cons_zero, List.set_cons_succ, seval, hk, gM hp, Int.natCast_add, Int.natCast_one, hw, intC, List.length_map]
    exact Weak.mk (by simp only [go_sem, Le.refl, Le.any, Le.slNil, Int.natCast_add, Int.cast_ofNat_Int, Int.natCast_one]) (fun _ _ h => h) rfl rfl
  ·
   have hk : s = ps.length := by have := hs.1; simp at hb9; omega
   refine AWp_exit ?_
   simp only [thenQ, blockQ, noGotoQ, bA, Nat.reduceEqDiff, ↓reduceIte]
   refine y0 _ ?_
   try clear y0 Y0
   refine AWp_seqK fun Y0 y0 => ?_
   refine AWp_region ?_
   simp only [↓bO, go_sem, seval]
   refine y0 _ ?_
   try clear y0 Y0
   refine AWp_ret ?_
   try simp only [thenQ, blockQ, noGotoQ, retQ, aRes, tupOf, bS, bA]
   refine ⟨_, _, ⟨rfl, rfl⟩, .v _ _, ⟨by omega, Und.rowI (iD_data _), trivial⟩, Le.of_eq (congrArg (fun n => AV.v (.int .i64 n)) ?_), ⟨0, rfl, rfl⟩, by omega⟩
   first | (rw [idxI_some hp (by exact hb16) hs.2]; done) | (rw [idxI_none (fun i p hi h1 => hs.2 i p (by omega) h1)]; done)
theorem DelF_calls (ps : List Int) (g : Nat) (caps : List AV) (f : Int → Bool) (hl : ps.length ≤ 1099511627776) (hcd : DataL caps) (hf : ∀ p ∈ ps, APure Tryd.prog g (.v (.int .i64 p) :: caps) (.v (.bool (f p)))) : ACalls Tryd.prog 34 [.own 0 ps.length, .clo g caps] [(0, .row 3 1 (ps.map intC))] 1 fun r os n => (r = .sl 1 ((ps.filter fun q => !f q).map intC) ∧ os = []) ∧ n = 1 := by
  refine ACalls.clean (C := fun r os' => r = _ ∧ os' = _) ?_
  refine ACalls_intro Tryd.func34 (by kernel_rfl) rfl (by rw [Tryd.ntmps34]; simp) (fun hm => ?_)
  simp only [Tryd.ntmps34, Tryd.results34, List.length_cons, List.length_nil, Nat.reduceAdd, Nat.reduceSub, List.replicate_succ, List.replicate_zero, List.cons_append, List.nil_append]
  refine AWp_seqK fun Y0 y0 => ?_
  refine AWp_region ?_
  simp only [↓bO, go_sem, seval, aReslice, delO, List.filter_cons, List.filter_nil, Nat.reduceBEq]
  refine y0 _ ?_
  try clear y0 Y0
  refine AWp_seqK fun Y0 y0 => ?_
  refine AWp_region ?_
  iterate 2 (refine aops_chunk 1 fun Q0 q0 => ?_; simp only [↓bO, go_sem, seval, aReslice, delO, List.filter_cons, List.filter_nil, Nat.reduceBEq]; refine q0 _ ?_; clear q0 Q0; simp only [go_sem])
  refine aops_chunk 1 fun Q0 q0 => ?_
  simp only [↓bO, go_sem, seval, aReslice, delO, List.filter_cons, List.filter_nil, Nat.reduceBEq]
  refine ACalls.mono (IndexO ps g caps f hl hcd hf) ?_
  rintro z os2 nx2 ⟨⟨rfl, rfl⟩, rfl⟩
  try simp only [bS, bA, thenQ, blockQ, noGotoQ]
  refine q0 _ ?_
  clear q0 Q0
  simp only [go_sem]
  simp only [↓bO, go_sem, seval, aReslice, delO, List.filter_cons, List.filter_nil, Nat.reduceBEq]
  refine y0 _ ?_
  try clear y0 Y0
  refine AWp_seqK fun Y0 y0 => ?_
  refine AWp_seqK fun Y1 y1 => ?_
  refine AWp_region ?_
  refine aops_chunk 1 fun Q0 q0 => ?_
  simp only [↓bO, go_sem, seval, aReslice, delO, List.filter_cons, List.filter_nil, Nat.reduceBEq]
  refine q0 _ ?_
  clear q0 Q0
  simp only [go_sem]
  simp only [↓bO, go_sem, seval, aReslice, delO, List.filter_cons, List.filter_nil, Nat.reduceBEq]
  refine y1 _ ?_
  try clear y1 Y1
  refine AWp_cond rfl (fun hb12 => ?_) (fun hb12 => ?_)
  ·
   have hix : ∀ (i : Nat) (p : Int), ps[i]? = some p → f p = false := (by rcases idxI_cases f ps with ⟨_, h9⟩ | ⟨i, p, h9, _⟩; exact h9; (have h8 := hb12; simp [h9] at h8))
   refine AWp_seqK fun Y1 y1 => ?_
   refine AWp_region ?_
   refine aops_chunk 1 fun Q0 q0 => ?_
   simp only [↓bO, go_sem, seval, aReslice, delO, List.filter_cons, List.filter_nil, Nat.reduceBEq]
   refine q0 _ ?_
   clear q0 Q0
   simp only [go_sem]
   simp only [↓bO, go_sem, seval, aReslice, delO, List.filter_cons, List.filter_nil, Nat.reduceBEq]
   refine y1 _ ?_
   try clear y1 Y1
   refine AWp_weak (Weak.freezeOne 4 rfl rfl (by first | rfl | simp) (iD_data _) (by simp only; omega)) ?_
   simp only [List.map_cons, List.map_nil, List.set_cons_zero, List.set_cons_succ]
   refine AWp_ret ?_
   try simp only [thenQ, blockQ, noGotoQ, retQ, aRes, tupOf, bS, bA]
   refine ⟨_, [], ⟨rfl, rfl⟩, .data (dataInts _), trivial, ?_, ⟨1, rfl, rfl⟩, by omega⟩
   rw [show (ps.filter fun q => !f q) = ps from List.filter_eq_self.2 fun x hx => by (obtain ⟨i, hi⟩ := List.mem_iff_getElem?.1 hx; simp [hix i x hi])]
   exact Le.refl _
  ·
   obtain ⟨i0, p0, hi0, hp0, hf0, hb0⟩ : ∃ (i : Nat) (p : Int), idxI f ps = (i : Int) ∧ ps[i]? = some p ∧ f p = true ∧ ∀ (j : Nat) (q : Int), j < i → ps[j]? = some q → f q = false := (by rcases idxI_cases f ps with ⟨h9, _⟩ | h9; (have h8 := hb12; simp [h9] at h8); exact h9)
   rw [hi0]
   have hi1 := (List.getElem?_eq_some_iff.1 hp0).1
   have hF0 : ((ps.take (i0 + 1)).filter fun q => !f q) = ps.take i0 := by (rw [fil_step (f := fun q => !f q) hp0, if_neg (by simp [hf0])]; exact fil_all fun i p hi h1 => by simp [hb0 i p hi h1])
   have hF1 : (ps.take i0).length = i0 := by rw [List.length_take]; omega
   have delR0 : delR (ps.take i0) ps = ps := by (unfold delR; rw [hF1]; exact List.take_append_drop _ _)
   have hw0 : IntKind.i64.wrap ((i0 : Int) + 1) = (i0 : Int) + 1 := wrap_in (by omega) (by omega)
   refine AWp_skip ?_
   try simp only [thenQ, blockQ, noGotoQ]
   refine y0 _ ?_
   try clear y0 Y0
   refine AWp_seqK fun Y0 y0 => ?_
   refine AWp_seqK fun Y1 y1 => ?_
   refine AWp_region ?_
   iterate 2 (refine aops_chunk 1 fun Q0 q0 => ?_; simp only [↓bO, go_sem, seval, aReslice, delO, List.filter_cons, List.filter_nil, Nat.reduceBEq, hw0]; refine q0 _ ?_; clear q0 Q0; simp only [go_sem])
   simp only [↓bO, go_sem, seval, aReslice, delO, List.filter_cons, List.filter_nil, Nat.reduceBEq, hw0]
   refine y1 _ ?_
   try clear y1 Y1
   refine AWp_block ?_
   refine AWp_loopM (σ := Nat) (mB 42 99) (fun z => z ≤ ps.length) (fun z => [(5, .v (.int .i64 (((ps.take z).filter fun q => !f q).length : Int))), (6, .v (.int .i64 (z : Int)))]) (fun z => [(0, .row 3 1 ((delR ((ps.take z).filter fun q => !f q) ps).map intC))]) (fun z => ps.length - z) (i0 + 1) (by omega) ?_ (fun z hz => ?_)
   ·
    simp only [maskL, setsL, putsO, putO, mB, List.set_cons_zero, List.set_cons_succ, seval, hF0, hF1, delR0, Int.natCast_add, Int.natCast_one]
    exact Weak.mk (by simp only [go_sem, Le.refl, Le.any, Le.slNil, Int.natCast_add, Int.cast_ofNat_Int, Int.natCast_one]) (fun _ _ h => h) rfl rfl
   simp only [maskL, setsL, putsO, putO, mB, List.set_cons_zero, List.set_cons_succ, seval]
   have hFl := fil_len (fun q => !f q) ps z hz
   have hRl := delR_len (F := ((ps.take z).filter fun q => !f q)) (ps := ps) (by omega)
   refine AWp_seqK fun Y1 y1 => ?_
   refine AWp_seqK fun Y2 y2 => ?_
   refine AWp_region ?_
   iterate 3 (refine aops_chunk 1 fun Q0 q0 => ?_; simp only [↓bO, go_sem, seval, aReslice, delO, List.filter_cons, List.filter_nil, Nat.reduceBEq, hRl, Int.natCast_add, intC, hw0]; refine q0 _ ?_; clear q0 Q0; simp only [go_sem])
   simp only [↓bO, go_sem, seval, aReslice, delO, List.filter_cons, List.filter_nil, Nat.reduceBEq, hRl, Int.natCast_add, intC, hw0]
   refine y2 _ ?_
   try clear y2 Y2
   refine AWp_cond rfl (fun hb19 => ?_) (fun hb19 => ?_)
   ·
    have hk : z < ps.length := by simpa using hb19
    obtain ⟨p, hp⟩ : ∃ p, ps[z]? = some p := ⟨_, List.getElem?_eq_getElem hk⟩
    have hRg : (delR ((ps.take z).filter fun q => !f q) ps)[z]? = some p := by rw [delR_get hFl]; exact hp
    have hw : IntKind.i64.wrap ((z : Int) + 1) = (z : Int) + 1 := wrap_in (by omega) (by omega)
    refine AWp_skip ?_
    try simp only [thenQ, blockQ, noGotoQ]
    refine y1 _ ?_
    try clear y1 Y1
    refine AWp_seqK fun Y1 y1 => ?_
    refine AWp_block ?_
    refine AWp_seqK fun Y2 y2 => ?_
    refine AWp_region ?_
    iterate 4 (refine aops_chunk 1 fun Q0 q0 => ?_; simp only [↓bO, go_sem, seval, aReslice, delO, List.filter_cons, List.filter_nil, Nat.reduceBEq, hRl, Int.natCast_add, intC, hw0, hk, gM hRg, hw]; refine q0 _ ?_; clear q0 Q0; simp only [go_sem])
    simp only [↓bO, go_sem, seval, aReslice, delO, List.filter_cons, List.filter_nil, Nat.reduceBEq, hRl, Int.natCast_add, intC, hw0, hk, gM hRg, hw]
    refine y2 _ ?_
    try clear y2 Y2
    refine AWp_seqK fun Y2 y2 => ?_
    refine AWp_region ?_
    iterate 2 (refine aops_chunk 1 fun Q0 q0 => ?_; simp only [↓bO, go_sem, seval, aReslice, delO, List.filter_cons, List.filter_nil, Nat.reduceBEq, hRl, Int.natCast_add, intC, hw0, hk, gM hRg, hw]; refine q0 _ ?_; clear q0 Q0; simp only [go_sem])
    refine aops_chunk 1 fun Q0 q0 => ?_
    simp only [↓bO, go_sem, seval, aReslice, delO, List.filter_cons, List.filter_nil, Nat.reduceBEq, hRl, Int.natCast_add, intC, hw0, hk, gM hRg, hw]
    refine APure.call (hf p (List.mem_of_getElem? hp)) ?_
    try simp only [bS, bA, thenQ, blockQ, noGotoQ]
    refine q0 _ ?_
    clear q0 Q0
    simp only [go_sem]
    simp only [↓bO, go_sem, seval, aReslice, delO, List.filter_cons, List.filter_nil, Nat.reduceBEq, hRl, Int.natCast_add, intC, hw0, hk, gM hRg, hw]
    refine y2 _ ?_
    try clear y2 Y2
    refine AWp_cond rfl (fun hb29 => ?_) (fun hb29 => ?_)
    ·
     have hfp : f p = false := by simpa using hb29
     have hFs : ((ps.take (z + 1)).filter fun q => !f q) = ((ps.take z).filter fun q => !f q) ++ [p] := by (rw [fil_step (f := fun q => !f q) hp, if_pos (by simp [hfp])])
     have hFl2 : ((ps.take z).filter fun q => !f q).length < ps.length := by omega
     have hst : ((delR ((ps.take z).filter fun q => !f q) ps).map intC).set ((ps.take z).filter fun q => !f q).length [.v (.int .i64 p)] = (delR ((ps.take (z + 1)).filter fun q => !f q) ps).map intC := by (rw [hFs, ← delR_set hFl2, List.map_set])
     have hdr : List.drop 1 (((delR ((ps.take z).filter fun q => !f q) ps).map intC).getD ((ps.take z).filter fun q => !f q).length []) = [] := by (rw [List.getD_eq_getElem?_getD, List.getElem?_map]; cases (delR ((ps.take z).filter fun q => !f q) ps)[((ps.take z).filter fun q => !f q).length]? <;> rfl)
     have hw9 : IntKind.i64.wrap ((((ps.take z).filter fun q => !f q).length : Int) + 1) = (((ps.take (z + 1)).filter fun q => !f q).length : Int) := by (rw [wrap_in (by omega) (by omega), hFs]; simp)
     refine AWp_seqK fun Y2 y2 => ?_
     refine AWp_region ?_
     iterate 4 (refine aops_chunk 1 fun Q0 q0 => ?_; simp only [↓bO, go_sem, seval, aReslice, delO, List.filter_cons, List.filter_nil, Nat.reduceBEq, hRl, Int.natCast_add, intC, hw0, hk, gM hRg, hw, hdr, hFl2, hst, hw9]; refine q0 _ ?_; clear q0 Q0; simp only [go_sem])
     simp only [↓bO, go_sem, seval, aReslice, delO, List.filter_cons, List.filter_nil, Nat.reduceBEq, hRl, Int.natCast_add, intC, hw0, hk, gM hRg, hw, hdr, hFl2, hst, hw9]
     refine y2 _ ?_
     try clear y2 Y2
     refine AWp_region ?_
     iterate 2 (refine aops_chunk 1 fun Q0 q0 => ?_; simp only [↓bO, go_sem, seval, aReslice, delO, List.filter_cons, List.filter_nil, Nat.reduceBEq, hRl, Int.natCast_add, intC, hw0, hk, gM hRg, hw, hdr, hFl2, hst, hw9]; refine q0 _ ?_; clear q0 Q0; simp only [go_sem])
     simp only [↓bO, go_sem, seval, aReslice, delO, List.filter_cons, List.filter_nil, Nat.reduceBEq, hRl, Int.natCast_add, intC, hw0, hk, gM hRg, hw, hdr, hFl2, hst, hw9]
     refine y1 _ ?_
     try clear y1 Y1
     refine AWp_region ?_
     iterate 2 (refine aops_chunk 1 fun Q0 q0 => ?_; simp only [↓bO, go_sem, seval, aReslice, delO, List.filter_cons, List.filter_nil, Nat.reduceBEq, hRl, Int.natCast_add, intC, hw0, hk, gM hRg, hw, hdr, hFl2, hst, hw9]; refine q0 _ ?_; clear q0 Q0; simp only [go_sem])
     simp only [↓bO, go_sem, seval, aReslice, delO, List.filter_cons, List.filter_nil, Nat.reduceBEq, hRl, Int.natCast_add, intC, hw0, hk, gM hRg, hw, hdr, hFl2, hst, hw9]
     refine ⟨z + 1, (by omega), (by omega), ?_⟩
     simp only [maskL, setsL, putsO, putO, mB, List.set_cons_zero, List.set_cons_succ, seval, hRl, Int.natCast_add, Int.natCast_one, intC, List.length_map, hw0, hk, gM hRg, hw, hdr, hFl2, hst, hw9]
     exact Weak.mk (by simp only [go_sem, Le.refl, Le.any, Le.slNil, Int.natCast_add, Int.cast_ofNat_Int, Int.natCast_one]) (fun _ _ h => h) rfl rfl
    ·
     have hfp : f p = true := by simpa using hb29
     have hFs : ((ps.take (z + 1)).filter fun q => !f q) = ((ps.take z).filter fun q => !f q) := by (rw [fil_step (f := fun q => !f q) hp, if_neg (by simp [hfp])])
     refine AWp_skip ?_
     try simp only [thenQ, blockQ, noGotoQ]
     refine y1 _ ?_
     try clear y1 Y1
     refine AWp_region ?_
     iterate 2 (refine aops_chunk 1 fun Q0 q0 => ?_; simp only [↓bO, go_sem, seval, aReslice, delO, List.filter_cons, List.filter_nil, Nat.reduceBEq, hRl, Int.natCast_add, intC, hw0, hk, gM hRg, hw, hFs]; refine q0 _ ?_; clear q0 Q0; simp only [go_sem])
     simp only [↓bO, go_sem, seval, aReslice, delO, List.filter_cons, List.filter_nil, Nat.reduceBEq, hRl, Int.natCast_add, intC, hw0, hk, gM hRg, hw, hFs]
     refine ⟨z + 1, (by omega), (by omega), ?_⟩
     simp only [maskL, setsL, putsO, putO, mB, List.set_cons_zero, List.set_cons_succ, seval, hRl, Int.natCast_add, Int.natCast_one, intC, List.length_map, hw0, hk, gM hRg, hw, hFs]
     exact Weak.mk (by simp only [go_sem, Le.refl, Le.any, Le.slNil, Int.natCast_add, Int.cast_ofNat_Int, Int.natCast_one]) (fun _ _ h => h) rfl rfl
   ·
    have hk : z = ps.length := by (have h9 := hb19; simp at h9; omega)
    have hFe : ((ps.take z).filter fun q => !f q) = ps.filter fun q => !f q := by rw [hk, List.take_length]
    refine AWp_exit ?_
    simp only [thenQ, blockQ, noGotoQ, bA, Nat.reduceEqDiff, ↓reduceIte]
    refine y0 _ ?_
    try clear y0 Y0
    refine AWp_seqK fun Y0 y0 => ?_
    refine AWp_clear (n := 2) rfl ?_
    change aops _ _ [_, _] _ _
    refine aops_chunk 1 fun Q0 q0 => ?_
    simp only [↓bO, go_sem, seval, aReslice, delO, List.filter_cons, List.filter_nil, Nat.reduceBEq, hw0, hRl]
    refine q0 _ ?_
    clear q0 Q0
    simp only [go_sem]
    simp only [↓bO, go_sem, seval, aReslice, delO, List.filter_cons, List.filter_nil, Nat.reduceBEq, hw0, hRl]
    refine ⟨0, _, 3, 8, .i64, _, _, .int .i64 0, rfl, rfl, rfl, by rw [List.length_map, hRl], by omega, by omega, ei22, (by kernel_rfl), rfl, by simp, ?_⟩
    obtain ⟨Y, hY⟩ : ∃ Y, Y = (((delR ((ps.take z).filter fun q => !f q) ps).map intC).take ((((ps.take z).filter fun q => !f q).length : Nat) : Int).toNat ++ List.replicate (((delR ((ps.take z).filter fun q => !f q) ps).map intC).length - ((((ps.take z).filter fun q => !f q).length : Nat) : Int).toNat) [AV.v (.int .i64 0)]) := ⟨_, rfl⟩
    rw [← hY]
    have y1 : Y.length = ps.length := by (rw [hY, Int.toNat_natCast, List.length_append, List.length_take, List.length_replicate, List.length_map, hRl]; omega)
    have y2 : Y.take ((ps.take z).filter fun q => !f q).length = ((ps.take z).filter fun q => !f q).map intC := by (rw [hY, Int.toNat_natCast]; exact delR_end _)
    have hle : ((((ps.take z).filter fun q => !f q).length : Nat) : Int) ≤ (ps.length : Int) := by omega
    simp only [thenQ, blockQ, noGotoQ, putO, bS, bA, List.length_map, aReslice, delO, List.filter_cons, List.filter_nil, Nat.reduceBEq, hw0, hRl, y1, y2, hle]
    refine y0 _ ?_
    try clear y0 Y0
    refine AWp_seqK fun Y0 y0 => ?_
    refine AWp_region ?_
    iterate 3 (refine aops_chunk 1 fun Q0 q0 => ?_; simp only [↓bO, go_sem, seval, aReslice, delO, List.filter_cons, List.filter_nil, Nat.reduceBEq, hw0, hRl, y1, y2, hle]; refine q0 _ ?_; clear q0 Q0; simp only [go_sem])
    simp only [↓bO, go_sem, seval, aReslice, delO, List.filter_cons, List.filter_nil, Nat.reduceBEq, hw0, hRl, y1, y2, hle]
    refine y0 _ ?_
    try clear y0 Y0
    refine AWp_weak (Weak.freezeOne 4 rfl rfl (by first | rfl | simp) (iD_data _) (by simp only; omega)) ?_
    simp only [List.map_cons, List.map_nil, List.set_cons_zero, List.set_cons_succ]
    refine AWp_ret ?_
    try simp only [thenQ, blockQ, noGotoQ, retQ, aRes, tupOf, bS, bA]
    refine ⟨_, [], ⟨rfl, rfl⟩, .data (dataInts _), trivial, ?_, ⟨1, rfl, rfl⟩, by omega⟩
    rw [hFe]; exact Le.refl _
theorem Ty.roomL_cnt : ∀ (ps : List Ty) (n : Int) (d : Nat), (∀ p ∈ ps, ∀ (n : Int) (d : Nat), 0 ≤ n → 0 ≤ p.room n d → p.room n d = n - p.cnt) → 0 ≤ Ty.roomL ps n d → Ty.roomL ps n d = n - Ty.cntL ps
  | [], n, d, _, _ => by simp [Ty.roomL, Ty.cntL]
  | p :: ps, n, d, hp, h => by
    simp only [Ty.roomL] at h ⊢
    by_cases hn : n < 0
    · rw [if_pos hn] at h; omega
    · rw [if_neg hn] at h ⊢
      have h2 : 0 ≤ p.room n d := by
        rcases Int.lt_or_le (p.room n d) 0 with h3 | h3
        · rw [Ty.roomL_neg ps h3] at h; omega
        · exact h3
      have h3 := hp p (by simp) n d (by omega) h2
      have h4 := Ty.roomL_cnt ps (p.room n d) d (fun q hq => hp q (by simp [hq])) h
      simp only [Ty.cntL]; omega
theorem Ty.room_cnt : ∀ (t : Ty) (n : Int) (d : Nat), 0 ≤ n → 0 ≤ t.room n d → t.room n d = n - t.cnt := by
  refine Ty.ind fun t ih => ?_
  intro n d hn h
  cases d with
  | zero => rw [Ty.room_zero] at h; omega
  | succ d =>
    rw [Ty.room_succ] at h ⊢
    have := Ty.roomL_cnt t.ps (n - 1) d ih h
    rw [Ty.cnt_eq]; omega
def Ty.great (t : Ty) : Bool := decide (t.room 300 40 < 0)
theorem Ty.great_cnt {t : Ty} (h : t.great = false) : t.cnt ≤ 300 := by
  simp only [Ty.great, decide_eq_false_iff_not] at h
  have := Ty.room_cnt t 300 40 (by omega) (by omega)
  omega
theorem Great3_pure (T : Ty) : APure Tryd.prog 9 [.agg T.cells] (.v (.bool T.great)) := by
  refine APure.mkL (.cons T.dataAgg .nil) (.v _) ?_
  refine ACalls_intro Tryd.func9 (by kernel_rfl) rfl (by rw [Tryd.ntmps9]; simp) (fun hm => ?_)
  simp only [Tryd.ntmps9, Tryd.results9, List.length_cons, List.length_nil, Nat.reduceAdd, Nat.reduceSub, List.replicate_succ, List.replicate_zero, List.cons_append, List.nil_append]
  simp only [Ty.cells_eq T, List.cons_append, List.nil_append]
  refine AWp_seqK fun Y0 y0 => ?_
  refine AWp_region ?_
  simp only [↓bO, go_sem, seval]
  refine y0 _ ?_
  try clear y0 Y0
  refine AWp_seqK fun Y0 y0 => ?_
  refine AWp_region ?_
  refine aops_chunk 1 fun Q0 q0 => ?_
  simp only [↓bO, go_sem, seval]
  refine q0 _ ?_
  clear q0 Q0
  simp only [go_sem]
  refine aops_chunk 1 fun Q0 q0 => ?_
  simp only [↓bO, go_sem, seval]
  refine APure.call (by have h9 := room_pure T 300 40 (by omega) (by omega) (by omega); rw [Ty.cells_eq T] at h9; exact h9) ?_
  try simp only [bS, bA, thenQ, blockQ, noGotoQ]
  refine q0 _ ?_
  clear q0 Q0
  simp only [go_sem]
  simp only [↓bO, go_sem, seval]
  refine y0 _ ?_
  try clear y0 Y0
  refine AWp_ret ?_
  try simp only [thenQ, blockQ, noGotoQ, retQ, aRes, tupOf, bS, bA]
  exact Le.of_eq (congrArg (fun b => AV.v (.bool b)) rfl)
theorem idx_mem (l : List Int) (v : Int) : decide (0 ≤ idxI (fun x => v == x) l) = decide (v ∈ l) := by
  rcases idxI_cases (fun x => v == x) l with ⟨h, h2⟩ | ⟨i, p, h, h1, h2, _⟩
  · rw [h]
    have : v ∉ l := fun hv => by
      obtain ⟨i, hi⟩ := List.mem_iff_getElem?.1 hv
      have := h2 i v hi
      simp at this
    simp [this]
  · rw [h]
    have : v ∈ l := by
      have e : v = p := by simpa using h2
      rw [e]; exact List.mem_of_getElem? h1
    simp [this]
theorem eqI_no {a b : List Int} {s : Nat} {x y : Int} (h1 : a[s]? = some x) (h2 : b[s]? = some y) (h : ¬ x = y) : decide (a = b) = false := by
  simp only [decide_eq_false_iff_not]
  rintro rfl
  rw [h1] at h2; cases h2; exact h rfl
theorem eqI_yes {a b : List Int} (hl : a.length = b.length) (h : ∀ (i : Nat) (x y : Int), i < a.length → a[i]? = some x → b[i]? = some y → x = y) : decide (a = b) = true := by
  simp only [decide_eq_true_eq]
  refine List.ext_getElem hl fun i h1 h2 => ?_
  exact h i _ _ h1 (List.getElem?_eq_getElem h1) (List.getElem?_eq_getElem h2)
theorem Sch.agg {s : Sch} : Data (.agg s.cells) := .agg s.data
theorem Sch.eptr {s : Sch} : Data (.eptr s.cells) := .eptr s.data
theorem Idx_pure (l : List Int) (v : Int) (hl : l.length ≤ 1099511627776) : APure Tryd.prog 65 [.sl 1 (l.map intC), .v (.int .i64 v)] (.v (.int .i64 (idxI (fun x => v == x) l))) := by
  refine APure.mkL (.cons (dataInts _) (.cons (.v _) .nil)) (.v _) ?_
  refine ACalls_intro Tryd.func65 (by kernel_rfl) rfl (by rw [Tryd.ntmps65]; simp) (fun hm => ?_)
  simp only [Tryd.ntmps65, Tryd.results65, List.length_cons, List.length_nil, Nat.reduceAdd, Nat.reduceSub, List.replicate_succ, List.replicate_zero, List.cons_append, List.nil_append]
  refine AWp_seqK fun Y0 y0 => ?_
  refine AWp_region ?_
  simp only [↓bO, go_sem, seval]
  refine y0 _ ?_
  try clear y0 Y0
  refine AWp_seqK fun Y0 y0 => ?_
  refine AWp_seqK fun Y1 y1 => ?_
  refine AWp_region ?_
  iterate 2 (refine aops_chunk 1 fun Q0 q0 => ?_; simp only [↓bO, go_sem, seval]; refine q0 _ ?_; clear q0 Q0; simp only [go_sem])
  simp only [↓bO, go_sem, seval]
  refine y1 _ ?_
  try clear y1 Y1
  refine AWp_block ?_
  refine AWp_loopM (σ := Nat) (mB 19 387) (fun s => s ≤ l.length ∧ ∀ (i : Nat) (p : Int), i < s → l[i]? = some p → (v == p) = false) (fun s => [(8, .v (.int .i64 (s : Int)))]) (fun s => []) (fun s => l.length - s) 0 (⟨by omega, fun i p hi => by omega⟩) ?_ (fun s hs => ?_)
  ·
   simp only [maskL, setsL, putsO, putO, mB, List.set_cons_zero, List.set_cons_succ, seval]
   exact Weak.mk (by simp only [go_sem, Le.refl, Le.any, Le.slNil, Int.natCast_add, Int.cast_ofNat_Int, Int.natCast_one]) (fun _ _ h => h) rfl rfl
  simp only [maskL, setsL, putsO, putO, mB, List.set_cons_zero, List.set_cons_succ, seval]
  refine AWp_seqK fun Y1 y1 => ?_
  refine AWp_region ?_
  simp only [↓bO, go_sem, seval]
  refine y1 _ ?_
  try clear y1 Y1
  refine AWp_seqK fun Y1 y1 => ?_
  refine AWp_cond rfl (fun hb9 => ?_) (fun hb9 => ?_)
  ·
   have hk : s < l.length := by simpa using hb9
   obtain ⟨p, hp⟩ : ∃ p, l[s]? = some p := ⟨_, List.getElem?_eq_getElem hk⟩
   have hw : IntKind.i64.wrap ((s : Int) + 1) = (s : Int) + 1 := wrap_in (by omega) (by omega)
   refine AWp_skip ?_
   try simp only [thenQ, blockQ, noGotoQ]
   refine y1 _ ?_
   try clear y1 Y1
   refine AWp_seqK fun Y1 y1 => ?_
   refine AWp_block ?_
   refine AWp_seqK fun Y2 y2 => ?_
   refine AWp_region ?_
   refine aops_chunk 1 fun Q0 q0 => ?_
   simp only [↓bO, go_sem, seval, hk, gM hp, Int.natCast_add, hw, intC]
   refine q0 _ ?_
   clear q0 Q0
   simp only [go_sem]
   simp only [↓bO, go_sem, seval, hk, gM hp, Int.natCast_add, hw, intC]
   refine y2 _ ?_
   try clear y2 Y2
   refine AWp_seqK fun Y2 y2 => ?_
   refine AWp_region ?_
   iterate 5 (refine aops_chunk 1 fun Q0 q0 => ?_; simp only [↓bO, go_sem, seval, hk, gM hp, Int.natCast_add, hw, intC]; refine q0 _ ?_; clear q0 Q0; simp only [go_sem])
   simp only [↓bO, go_sem, seval, hk, gM hp, Int.natCast_add, hw, intC]
   refine y2 _ ?_
   try clear y2 Y2
   refine AWp_cond rfl (fun hb16 => ?_) (fun hb16 => ?_)
   ·
    refine AWp_seqK fun Y2 y2 => ?_
    refine AWp_region ?_
    refine aops_chunk 1 fun Q0 q0 => ?_
    simp only [↓bO, go_sem, seval, hk, gM hp, Int.natCast_add, hw, intC]
    refine q0 _ ?_
    clear q0 Q0
    simp only [go_sem]
    simp only [↓bO, go_sem, seval, hk, gM hp, Int.natCast_add, hw, intC]
    refine y2 _ ?_
    try clear y2 Y2
    refine AWp_ret ?_
    try simp only [thenQ, blockQ, noGotoQ, retQ, aRes, tupOf, bS, bA]
    refine Le.of_eq (congrArg (fun n => AV.v (.int .i64 n)) ?_)
    first | (rw [idxI_some hp (by simpa using hb16) hs.2]; done) | (rw [idxI_none (fun i p hi h1 => hs.2 i p (by omega) h1)]; done)
   ·
    refine AWp_skip ?_
    try simp only [thenQ, blockQ, noGotoQ]
    refine y1 _ ?_
    try clear y1 Y1
    refine AWp_region ?_
    refine aops_chunk 1 fun Q0 q0 => ?_
    simp only [↓bO, go_sem, seval, hk, gM hp, Int.natCast_add, hw, intC]
    refine q0 _ ?_
    clear q0 Q0
    simp only [go_sem]
    simp only [↓bO, go_sem, seval, hk, gM hp, Int.natCast_add, hw, intC]
    refine ⟨(s + 1), ⟨by omega, fun i p' hi h1 => (by rcases Nat.lt_or_ge i s with h3 | h3 <;> first | exact hs.2 i p' h3 h1 | (obtain rfl : i = s := (by omega); rw [hp] at h1; cases h1; simpa using hb16))⟩, by omega, ?_⟩
    simp only [maskL, setsL, putsO, putO, mB, List.set_cons_zero, List.set_cons_succ, seval, hk, gM hp, Int.natCast_add, Int.natCast_one, hw, intC]
    exact Weak.mk (by simp only [go_sem, Le.refl, Le.any, Le.slNil, Int.natCast_add, Int.cast_ofNat_Int, Int.natCast_one]) (fun _ _ h => h) rfl rfl
  ·
   have hk : s = l.length := by have := hs.1; simp at hb9; omega
   refine AWp_exit ?_
   simp only [thenQ, blockQ, noGotoQ, bA, Nat.reduceEqDiff, ↓reduceIte]
   refine y0 _ ?_
   try clear y0 Y0
   refine AWp_seqK fun Y0 y0 => ?_
   refine AWp_region ?_
   simp only [↓bO, go_sem, seval]
   refine y0 _ ?_
   try clear y0 Y0
   refine AWp_ret ?_
   try simp only [thenQ, blockQ, noGotoQ, retQ, aRes, tupOf, bS, bA]
   refine Le.of_eq (congrArg (fun n => AV.v (.int .i64 n)) ?_)
   first | (rw [idxI_some hp (by simpa using hb16) hs.2]; done) | (rw [idxI_none (fun i p hi h1 => hs.2 i p (by omega) h1)]; done)
theorem Cont_pure (l : List Int) (v : Int) (hl : l.length ≤ 1099511627776) : APure Tryd.prog 36 [.sl 1 (l.map intC), .v (.int .i64 v)] (.v (.bool (decide (v ∈ l)))) := by
  refine APure.mkL (.cons (dataInts _) (.cons (.v _) .nil)) (.v _) ?_
  refine ACalls_intro Tryd.func36 (by kernel_rfl) rfl (by rw [Tryd.ntmps36]; simp) (fun hm => ?_)
  simp only [Tryd.ntmps36, Tryd.results36, List.length_cons, List.length_nil, Nat.reduceAdd, Nat.reduceSub, List.replicate_succ, List.replicate_zero, List.cons_append, List.nil_append]
  refine AWp_seqK fun Y0 y0 => ?_
  refine AWp_region ?_
  simp only [↓bO, go_sem, seval, idx_mem, ge_iff_le]
  refine y0 _ ?_
  try clear y0 Y0
  refine AWp_seqK fun Y0 y0 => ?_
  refine AWp_region ?_
  iterate 2 (refine aops_chunk 1 fun Q0 q0 => ?_; simp only [↓bO, go_sem, seval, idx_mem, ge_iff_le]; refine q0 _ ?_; clear q0 Q0; simp only [go_sem])
  refine aops_chunk 1 fun Q0 q0 => ?_
  simp only [↓bO, go_sem, seval, idx_mem, ge_iff_le]
  refine APure.call (Idx_pure l v hl) ?_
  try simp only [bS, bA, thenQ, blockQ, noGotoQ]
  refine q0 _ ?_
  clear q0 Q0
  simp only [go_sem]
  refine aops_chunk 1 fun Q0 q0 => ?_
  simp only [↓bO, go_sem, seval, idx_mem, ge_iff_le]
  refine q0 _ ?_
  clear q0 Q0
  simp only [go_sem]
  simp only [↓bO, go_sem, seval, idx_mem, ge_iff_le]
  refine y0 _ ?_
  try clear y0 Y0
  refine AWp_ret ?_
  try simp only [thenQ, blockQ, noGotoQ, retQ, aRes, tupOf, bS, bA]
  first | exact Le.refl _ | exact Le.of_eq (congrArg (fun b => AV.v (.bool b)) (idx_mem l v))
theorem EqI_pure (l m : List Int) (hl : l.length ≤ 1099511627776) : APure Tryd.prog 38 [.sl 1 (l.map intC), .sl 1 (m.map intC)] (.v (.bool (decide (l = m)))) := by
  refine APure.mkL (.cons (dataInts _) (.cons (dataInts _) .nil)) (.v _) ?_
  refine ACalls_intro Tryd.func38 (by kernel_rfl) rfl (by rw [Tryd.ntmps38]; simp) (fun hm => ?_)
  simp only [Tryd.ntmps38, Tryd.results38, List.length_cons, List.length_nil, Nat.reduceAdd, Nat.reduceSub, List.replicate_succ, List.replicate_zero, List.cons_append, List.nil_append]
  refine AWp_seqK fun Y0 y0 => ?_
  refine AWp_region ?_
  simp only [↓bO, go_sem, seval]
  refine y0 _ ?_
  try clear y0 Y0
  refine AWp_seqK fun Y0 y0 => ?_
  refine AWp_seqK fun Y1 y1 => ?_
  refine AWp_region ?_
  iterate 4 (refine aops_chunk 1 fun Q0 q0 => ?_; simp only [↓bO, go_sem, seval]; refine q0 _ ?_; clear q0 Q0; simp only [go_sem])
  simp only [↓bO, go_sem, seval]
  refine y1 _ ?_
  try clear y1 Y1
  refine AWp_cond rfl (fun hb10 => ?_) (fun hb10 => ?_)
  ·
   have hln : ¬ l.length = m.length := by (have h9 := hb10; simp at h9; omega)
   refine AWp_seqK fun Y1 y1 => ?_
   refine AWp_region ?_
   simp only [↓bO, go_sem, seval]
   refine y1 _ ?_
   try clear y1 Y1
   refine AWp_ret ?_
   try simp only [thenQ, blockQ, noGotoQ, retQ, aRes, tupOf, bS, bA]
   refine Le.of_eq (congrArg (fun b => AV.v (.bool b)) ?_)
   exact (decide_eq_false fun e => hln (congrArg List.length e)).symm
  ·
   have hln : l.length = m.length := by (have h9 := hb10; simp at h9; omega)
   refine AWp_skip ?_
   try simp only [thenQ, blockQ, noGotoQ]
   refine y0 _ ?_
   try clear y0 Y0
   refine AWp_seqK fun Y0 y0 => ?_
   refine AWp_seqK fun Y1 y1 => ?_
   refine AWp_region ?_
   iterate 2 (refine aops_chunk 1 fun Q0 q0 => ?_; simp only [↓bO, go_sem, seval]; refine q0 _ ?_; clear q0 Q0; simp only [go_sem])
   simp only [↓bO, go_sem, seval]
   refine y1 _ ?_
   try clear y1 Y1
   refine AWp_block ?_
   refine AWp_loopM (σ := Nat) (mB 26 12291) (fun s => s ≤ l.length ∧ ∀ (i : Nat) (x y : Int), i < s → l[i]? = some x → m[i]? = some y → x = y) (fun s => [(13, .v (.int .i64 (s : Int)))]) (fun s => []) (fun s => l.length - s) 0 (⟨by omega, fun i x y hi => by omega⟩) ?_ (fun s hs => ?_)
   ·
    simp only [maskL, setsL, putsO, putO, mB, List.set_cons_zero, List.set_cons_succ, seval]
    exact Weak.mk (by simp only [go_sem, Le.refl, Le.any, Le.slNil, Int.natCast_add, Int.cast_ofNat_Int, Int.natCast_one]) (fun _ _ h => h) rfl rfl
   simp only [maskL, setsL, putsO, putO, mB, List.set_cons_zero, List.set_cons_succ, seval]
   refine AWp_seqK fun Y1 y1 => ?_
   refine AWp_region ?_
   simp only [↓bO, go_sem, seval]
   refine y1 _ ?_
   try clear y1 Y1
   refine AWp_seqK fun Y1 y1 => ?_
   refine AWp_cond rfl (fun hb14 => ?_) (fun hb14 => ?_)
   ·
    have hk : s < l.length := by simpa using hb14
    have hk2 : s < m.length := by omega
    obtain ⟨x, hx⟩ : ∃ x, l[s]? = some x := ⟨_, List.getElem?_eq_getElem hk⟩
    obtain ⟨y, hy⟩ : ∃ y, m[s]? = some y := ⟨_, List.getElem?_eq_getElem hk2⟩
    have hw : IntKind.i64.wrap ((s : Int) + 1) = (s : Int) + 1 := wrap_in (by omega) (by omega)
    refine AWp_skip ?_
    try simp only [thenQ, blockQ, noGotoQ]
    refine y1 _ ?_
    try clear y1 Y1
    refine AWp_seqK fun Y1 y1 => ?_
    refine AWp_block ?_
    refine AWp_seqK fun Y2 y2 => ?_
    refine AWp_region ?_
    refine aops_chunk 1 fun Q0 q0 => ?_
    simp only [↓bO, go_sem, seval, hk, hk2, gM hx, gM hy, Int.natCast_add, hw, intC]
    refine q0 _ ?_
    clear q0 Q0
    simp only [go_sem]
    simp only [↓bO, go_sem, seval, hk, hk2, gM hx, gM hy, Int.natCast_add, hw, intC]
    refine y2 _ ?_
    try clear y2 Y2
    refine AWp_seqK fun Y2 y2 => ?_
    refine AWp_drawK 9 mixed (by kernel_rfl) fun J0 j0 => ?_
    iterate 8 (simp only [go_sem]; refine dRun_chunk 1 fun Q0 q0 => ?_; simp only [↓dRun, ↓dOp, ↓bO, go_sem, seval, hk, hk2, gM hx, gM hy, Int.natCast_add, hw, intC]; refine q0 _ ?_; clear q0 Q0)
    simp only [go_sem]
    simp only [↓dRun, ↓dOp, ↓bO, go_sem, seval, hk, hk2, gM hx, gM hy, Int.natCast_add, hw, intC]
    refine j0 _ ?_
    clear j0 J0
    simp only [bL, aops, thenQ, blockQ, noGotoQ]
    refine y2 _ ?_
    try clear y2 Y2
    refine AWp_cond rfl (fun hb24 => ?_) (fun hb24 => ?_)
    ·
     have hne : ¬ x = y := by simpa using hb24
     refine AWp_seqK fun Y2 y2 => ?_
     refine AWp_region ?_
     simp only [↓bO, go_sem, seval, hk, hk2, gM hx, gM hy, Int.natCast_add, hw, intC]
     refine y2 _ ?_
     try clear y2 Y2
     refine AWp_ret ?_
     try simp only [thenQ, blockQ, noGotoQ, retQ, aRes, tupOf, bS, bA]
     refine Le.of_eq (congrArg (fun b => AV.v (.bool b)) ?_)
     exact (eqI_no hx hy hne).symm
    ·
     have hne : x = y := by simpa using hb24
     refine AWp_skip ?_
     try simp only [thenQ, blockQ, noGotoQ]
     refine y1 _ ?_
     try clear y1 Y1
     refine AWp_region ?_
     refine aops_chunk 1 fun Q0 q0 => ?_
     simp only [↓bO, go_sem, seval, hk, hk2, gM hx, gM hy, Int.natCast_add, hw, intC]
     refine q0 _ ?_
     clear q0 Q0
     simp only [go_sem]
     simp only [↓bO, go_sem, seval, hk, hk2, gM hx, gM hy, Int.natCast_add, hw, intC]
     refine ⟨(s + 1), ⟨by omega, fun i x1 y1 hi h1 h2 => (by rcases Nat.lt_or_ge i s with h3 | h3 <;> first | exact hs.2 i x1 y1 h3 h1 h2 | (obtain rfl : i = s := (by omega); rw [hx] at h1; rw [hy] at h2; cases h1; cases h2; exact hne))⟩, by omega, ?_⟩
     simp only [maskL, setsL, putsO, putO, mB, List.set_cons_zero, List.set_cons_succ, seval, hk, hk2, gM hx, gM hy, Int.natCast_add, Int.natCast_one, hw, intC]
     exact Weak.mk (by simp only [go_sem, Le.refl, Le.any, Le.slNil, Int.natCast_add, Int.cast_ofNat_Int, Int.natCast_one]) (fun _ _ h => h) rfl rfl
   ·
    have hk : s = l.length := by have := hs.1; simp at hb14; omega
    refine AWp_exit ?_
    simp only [thenQ, blockQ, noGotoQ, bA, Nat.reduceEqDiff, ↓reduceIte]
    refine y0 _ ?_
    try clear y0 Y0
    refine AWp_seqK fun Y0 y0 => ?_
    refine AWp_region ?_
    simp only [↓bO, go_sem, seval]
    refine y0 _ ?_
    try clear y0 Y0
    refine AWp_ret ?_
    try simp only [thenQ, blockQ, noGotoQ, retQ, aRes, tupOf, bS, bA]
    refine Le.of_eq (congrArg (fun b => AV.v (.bool b)) ?_)
    exact (eqI_yes hln fun i x y hi => hs.2 i x y (by omega)).symm
theorem Sch.all_len (s : Sch) : s.all.length ≤ s.t.cnt := by have h := Ty.rvars_len s.t []; simpa [Sch.all] using h
end Go.Proofs.YtheacaigeidflaaDoor
namespace Go.Proofs.YtheacaigeidflaaDoor
open Go Go.RowKit
def tabM (l : List Bd) : List (Int × Ty) := l.map fun b => (b.v, b.t)
def onesM (l : List Bd) : List (Int × Int) := l.map fun b => (b.v, 1)
theorem pset_none {α : Type} {k : Int} {x : α} : ∀ {m : List (Int × α)}, pfind m k = none → pset m k x = m ++ [(k, x)]
  | [], _ => rfl
  | (i, y) :: m, h => by
    rw [pfind] at h
    split at h
    · cases h
    · rename_i hne
      rw [pset, if_neg hne, pset_none h]; rfl
theorem pfind_not {α : Type} {k : Int} : ∀ {m : List (Int × α)}, k ∉ m.map Prod.fst → pfind m k = none
  | [], _ => rfl
  | (i, y) :: m, h => by
    simp only [List.map_cons, List.mem_cons, not_or] at h
    rw [pfind, if_neg (fun e => h.1 e.symm)]
    exact pfind_not h.2
theorem pfind_mem {α : Type} {k : Int} {x : α} : ∀ {m : List (Int × α)}, pfind m k = some x → (k, x) ∈ m
  | (i, y) :: m, h => by
    rw [pfind] at h
    split at h
    · rename_i e; cases h; rw [e]; simp
    · exact List.mem_cons_of_mem _ (pfind_mem h)
theorem tabM_fst (l : List Bd) : (tabM l).map Prod.fst = l.map Bd.v := by simp [tabM, Function.comp_def]
theorem onesM_fst (l : List Bd) : (onesM l).map Prod.fst = l.map Bd.v := by simp [onesM, Function.comp_def]
theorem nodup_take {l : List Bd} (hn : (l.map Bd.v).Nodup) {s : Nat} {b : Bd} (hb : l[s]? = some b) : b.v ∉ (l.take s).map Bd.v := by
  have hlt := (List.getElem?_eq_some_iff.1 hb).1
  have e : l.take (s + 1) = l.take s ++ [b] := by rw [List.take_add_one, hb]; rfl
  have h2 : ((l.take (s + 1)).map Bd.v).Nodup := by
    rw [List.map_take]; exact hn.sublist (List.take_sublist _ _)
  rw [e, List.map_append, List.nodup_append] at h2
  exact fun h => h2.2.2 _ h b.v (by simp) rfl
theorem onesM_new {l : List Bd} (hn : (l.map Bd.v).Nodup) {s : Nat} {b : Bd} (hb : l[s]? = some b) : pfind (onesM (l.take s)) b.v = none := pfind_not (by rw [onesM_fst]; exact nodup_take hn hb)
theorem onesM_step {l : List Bd} (hn : (l.map Bd.v).Nodup) {s : Nat} {b : Bd} (hb : l[s]? = some b) : pset (onesM (l.take s)) b.v 1 = onesM (l.take (s + 1)) := by
  rw [pset_none (onesM_new hn hb), List.take_add_one, hb]; simp [onesM]
theorem tabM_step {l : List Bd} (hn : (l.map Bd.v).Nodup) {s : Nat} {b : Bd} (hb : l[s]? = some b) : pset (tabM (l.take s)) b.v b.t = tabM (l.take (s + 1)) := by
  rw [pset_none (pfind_not (by rw [tabM_fst]; exact nodup_take hn hb)), List.take_add_one, hb]; simp [tabM]
mutual
/-- a type, variables standing for others -/
def Ty.subM (m : List (Int × Ty)) : Ty → Ty
  | .mk k n ps => match (if k = 1 then pfind m n else none) with
    | some x => x
    | none => .mk k n (Ty.subML m ps)
def Ty.subML (m : List (Int × Ty)) : List Ty → List Ty
  | [] => []
  | p :: ps => Ty.subM m p :: Ty.subML m ps
end
theorem Ty.subML_eq (m : List (Int × Ty)) : ∀ ps, Ty.subML m ps = ps.map (Ty.subM m)
  | [] => by simp [Ty.subML]
  | p :: ps => by simp [Ty.subML, Ty.subML_eq m ps]
theorem Ty.subM_yes {m : List (Int × Ty)} {t x : Ty} (h : t.k = 1) (hx : pfind m t.n = some x) : t.subM m = x := by
  obtain ⟨k, n, ps⟩ := t
  simp only [Ty.k_mk, Ty.n_mk] at h hx
  rw [Ty.subM, if_pos h, hx]
theorem Ty.subM_no {m : List (Int × Ty)} {t : Ty} (h : ¬ (t.k = 1 ∧ (pfind m t.n).isSome = true)) : t.subM m = .mk t.k t.n (t.ps.map (Ty.subM m)) := by
  obtain ⟨k, n, ps⟩ := t
  simp only [Ty.k_mk, Ty.n_mk, Ty.ps_mk] at h ⊢
  rw [Ty.subM, ← Ty.subML_eq]
  by_cases hk : k = 1
  · cases hp : pfind m n with
    | none => rw [if_pos hk]
    | some x => exact absurd ⟨hk, by rw [hp]; rfl⟩ h
  · rw [if_neg hk]
theorem bfind_cons (b : Bd) (l : List Bd) (v : Int) : bfind (b :: l) v = if b.v = v then 0 else if bfind l v < 0 then -1 else bfind l v + 1 := by
  unfold bfind idxI
  by_cases hb : b.v = v
  · simp [hb, List.findIdx_cons]
  · have hb2 : (b.v == v) = false := by simpa using hb
    simp only [List.any_cons, hb2, Bool.false_or, List.findIdx_cons, cond_false, if_neg hb]
    split
    · rw [if_neg (by omega)]; omega
    · rfl
theorem pfind_tab (v : Int) : ∀ l : List Bd, pfind (tabM l) v = if 0 ≤ bfind l v then (l[(bfind l v).toNat]?).map Bd.t else none
  | [] => rfl
  | b :: l => by
    rw [bfind_cons]
    show (if b.v = v then some b.t else pfind (tabM l) v) = _
    by_cases hb : b.v = v
    · rw [if_pos hb, if_pos hb]; rfl
    · rw [if_neg hb, if_neg hb, pfind_tab v l]
      by_cases hl : bfind l v < 0
      · rw [if_neg (by omega), if_pos hl]; rfl
      · rw [if_pos (by omega), if_neg hl, if_pos (by omega)]
        have e : (bfind l v + 1).toNat = (bfind l v).toNat + 1 := by omega
        rw [e]; rfl
theorem bfun_tab (l : List Bd) (v : Int) : bfun l v = (pfind (tabM l) v).getD (vTy v) := by
  rw [pfind_tab, bfun]
  split
  · rename_i h
    have hlt : (bfind l v).toNat < l.length := by
      have h2 : l.any (fun b => b.v == v) = true := by
        unfold bfind idxI at h
        split at h
        · assumption
        · omega
      unfold bfind idxI at *
      rw [if_pos h2]
      rw [Int.toNat_natCast]
      obtain ⟨x, hx, hxv⟩ := List.any_eq_true.1 h2
      exact List.findIdx_lt_length_of_exists ⟨x, hx, hxv⟩
    rw [List.getElem?_eq_getElem hlt]; rfl
  · rfl
theorem Ty.subM_bfun (l : List Bd) : ∀ t : Ty, t.right = true → t.subM (tabM l) = t.subF (bfun l) := by
  refine Ty.ind fun t ih hr => ?_
  by_cases hk : t.k = 1
  · rw [Ty.subF_var hk, bfun_tab]
    cases hp : pfind (tabM l) t.n with
    | some x => rw [Ty.subM_yes hk hp]; rfl
    | none =>
      have e := Ty.right_var hr hk
      rw [Ty.subM_no (by rw [hp]; simp), e]; rfl
  · rw [Ty.subM_no (fun h => hk h.1), Ty.subF_more hk]
    congr 1
    exact List.map_congr_left fun p hp => ih p hp (Ty.right_part hr hp)
end Go.Proofs.YtheacaigeidflaaDoor
namespace Go.Proofs.YtheacaigeidflaaDoor
open Go Go.RowKit
set_option maxRecDepth 100000
set_option maxHeartbeats 4000000
set_option linter.unusedSimpArgs false
set_option linter.unusedVariables false
attribute [local irreducible] aops dRun
def Sch.great (s : Sch) : Bool := s.t.great || decide ((s.vs.length : Int) > 40)
def closeR (t : Ty) (ar : List Ty) : Sch := ⟨butL (t.rvars []) (Ty.rvarsL ar []), t⟩
def zSch : Sch := ⟨[], .mk 0 0 []⟩
theorem Great16_pure (s : Sch) : APure Tryd.prog 7 [.agg s.cells] (.v (.bool s.great)) := by
  refine APure.mkL (.cons Sch.agg .nil) (.v _) ?_
  refine ACalls_intro Tryd.func7 (by kernel_rfl) rfl (by rw [Tryd.ntmps7]; simp) (fun hm => ?_)
  simp only [Tryd.ntmps7, Tryd.results7, List.length_cons, List.length_nil, Nat.reduceAdd, Nat.reduceSub, List.replicate_succ, List.replicate_zero, List.cons_append, List.nil_append]
  refine AWp_seqK fun Y0 y0 => ?_
  refine AWp_region ?_
  refine aops_chunk 1 fun Q0 q0 => ?_
  simp only [↓bO, go_sem, seval, Sch.cells]
  refine q0 _ ?_
  clear q0 Q0
  simp only [go_sem]
  simp only [↓bO, go_sem, seval, Sch.cells]
  refine y0 _ ?_
  try clear y0 Y0
  refine AWp_seqK fun Y0 y0 => ?_
  refine AWp_region ?_
  iterate 2 (refine aops_chunk 1 fun Q0 q0 => ?_; simp only [↓bO, go_sem, seval, Sch.cells]; refine q0 _ ?_; clear q0 Q0; simp only [go_sem])
  refine aops_chunk 1 fun Q0 q0 => ?_
  simp only [↓bO, go_sem, seval, Sch.cells]
  refine APure.call (Great3_pure s.t) ?_
  try simp only [bS, bA, thenQ, blockQ, noGotoQ]
  refine q0 _ ?_
  clear q0 Q0
  simp only [go_sem]
  refine aops_chunk 1 fun Q0 q0 => ?_
  simp only [↓bO, go_sem, seval, Sch.cells]
  refine q0 _ ?_
  clear q0 Q0
  simp only [go_sem]
  refine aops_case 6 rfl (fun hc6 => ?_) (fun hc6 => ?_)
  ·
   simp only [List.set_cons_zero, List.set_cons_succ]
   have hg : s.t.great = true := by (first | exact hc6 | simpa using hc6)
   iterate 5 (refine aops_chunk 1 fun Q0 q0 => ?_; simp only [↓bO, go_sem, seval, Sch.cells]; refine q0 _ ?_; clear q0 Q0; simp only [go_sem])
   simp only [↓bO, go_sem, seval, Sch.cells]
   refine y0 _ ?_
   try clear y0 Y0
   refine AWp_ret ?_
   try simp only [thenQ, blockQ, noGotoQ, retQ, aRes, tupOf, bS, bA]
   unfold Sch.great
   rw [hg]
   first | exact Le.refl _ | (rw [Bool.true_or]; exact Le.refl _) | (rw [Bool.false_or]; exact Le.refl _)
  ·
   simp only [List.set_cons_zero, List.set_cons_succ]
   have hg : s.t.great = false := by (first | exact hc6 | simpa using hc6)
   iterate 5 (refine aops_chunk 1 fun Q0 q0 => ?_; simp only [↓bO, go_sem, seval, Sch.cells]; refine q0 _ ?_; clear q0 Q0; simp only [go_sem])
   simp only [↓bO, go_sem, seval, Sch.cells]
   refine y0 _ ?_
   try clear y0 Y0
   refine AWp_ret ?_
   try simp only [thenQ, blockQ, noGotoQ, retQ, aRes, tupOf, bS, bA]
   unfold Sch.great
   rw [hg]
   first | exact Le.refl _ | (rw [Bool.true_or]; exact Le.refl _) | (rw [Bool.false_or]; exact Le.refl _)
theorem Own16_pure (s : Sch) : APure Tryd.prog 14 [.agg s.cells] (.agg s.cells) := by
  refine APure.mkL (.cons Sch.agg .nil) (Sch.agg) ?_
  refine ACalls_intro Tryd.func14 (by kernel_rfl) rfl (by rw [Tryd.ntmps14]; simp) (fun hm => ?_)
  simp only [Tryd.ntmps14, Tryd.results14, List.length_cons, List.length_nil, Nat.reduceAdd, Nat.reduceSub, List.replicate_succ, List.replicate_zero, List.cons_append, List.nil_append]
  refine AWp_seqK fun Y0 y0 => ?_
  refine AWp_region ?_
  refine aops_chunk 1 fun Q0 q0 => ?_
  simp only [↓bO, go_sem, seval, Sch.cells]
  refine q0 _ ?_
  clear q0 Q0
  simp only [go_sem]
  simp only [↓bO, go_sem, seval, Sch.cells]
  refine y0 _ ?_
  try clear y0 Y0
  refine AWp_seqK fun Y0 y0 => ?_
  refine AWp_region ?_
  iterate 5 (refine aops_chunk 1 fun Q0 q0 => ?_; simp only [↓bO, go_sem, seval, Sch.cells]; refine q0 _ ?_; clear q0 Q0; simp only [go_sem])
  simp only [↓bO, go_sem, seval, Sch.cells]
  refine y0 _ ?_
  try clear y0 Y0
  refine AWp_ret ?_
  try simp only [thenQ, blockQ, noGotoQ, retQ, aRes, tupOf, bS, bA, aLoad, getO, pack, bL, Nat.reduceAdd, Nat.reduceLeDiff, Nat.reduceEqDiff, ↓reduceIte, ti31, tyX, Sch.cells, List.length_map]
  exact Le.refl _
theorem Close1_pure (l : List Int) (v : Int) (hl : l.length ≤ 1099511627776) : APure Tryd.prog 35 [.v (.int .i64 v), .eptr [.sl 1 (l.map intC)]] (.v (.bool (decide (v ∈ l)))) := by
  refine APure.mkL (.cons (.v _) (.cons (.eptr (.cons (dataInts _) .nil)) .nil)) (.v _) ?_
  refine ACalls_intro Tryd.func35 (by kernel_rfl) rfl (by rw [Tryd.ntmps35]; simp) (fun hm => ?_)
  simp only [Tryd.ntmps35, Tryd.results35, List.length_cons, List.length_nil, Nat.reduceAdd, Nat.reduceSub, List.replicate_succ, List.replicate_zero, List.cons_append, List.nil_append]
  refine AWp_seqK fun Y0 y0 => ?_
  refine AWp_region ?_
  simp only [↓bO, go_sem, seval]
  refine y0 _ ?_
  try clear y0 Y0
  refine AWp_seqK fun Y0 y0 => ?_
  refine AWp_region ?_
  iterate 2 (refine aops_chunk 1 fun Q0 q0 => ?_; simp only [↓bO, go_sem, seval]; refine q0 _ ?_; clear q0 Q0; simp only [go_sem])
  refine aops_chunk 1 fun Q0 q0 => ?_
  simp only [↓bO, go_sem, seval]
  refine APure.call (Cont_pure l v hl) ?_
  try simp only [bS, bA, thenQ, blockQ, noGotoQ]
  refine q0 _ ?_
  clear q0 Q0
  simp only [go_sem]
  simp only [↓bO, go_sem, seval]
  refine y0 _ ?_
  try clear y0 Y0
  refine AWp_ret ?_
  try simp only [thenQ, blockQ, noGotoQ, retQ, aRes, tupOf, bS, bA]
  exact Le.refl _
theorem Right1s_pure (s : Sch) (v : Int) (hl : s.vs.length ≤ 1099511627776) : APure Tryd.prog 39 [.v (.int .i64 v), .eptr s.cells] (.v (.bool (!decide (v ∈ s.vs)))) := by
  refine APure.mkL (.cons (.v _) (.cons Sch.eptr .nil)) (.v _) ?_
  refine ACalls_intro Tryd.func39 (by kernel_rfl) rfl (by rw [Tryd.ntmps39]; simp) (fun hm => ?_)
  simp only [Tryd.ntmps39, Tryd.results39, List.length_cons, List.length_nil, Nat.reduceAdd, Nat.reduceSub, List.replicate_succ, List.replicate_zero, List.cons_append, List.nil_append]
  refine AWp_seqK fun Y0 y0 => ?_
  refine AWp_region ?_
  simp only [↓bO, go_sem, seval, Sch.cells]
  refine y0 _ ?_
  try clear y0 Y0
  refine AWp_seqK fun Y0 y0 => ?_
  refine AWp_region ?_
  iterate 3 (refine aops_chunk 1 fun Q0 q0 => ?_; simp only [↓bO, go_sem, seval, Sch.cells]; refine q0 _ ?_; clear q0 Q0; simp only [go_sem])
  refine aops_chunk 1 fun Q0 q0 => ?_
  simp only [↓bO, go_sem, seval, Sch.cells]
  refine APure.call (Cont_pure s.vs v hl) ?_
  try simp only [bS, bA, thenQ, blockQ, noGotoQ]
  refine q0 _ ?_
  clear q0 Q0
  simp only [go_sem]
  refine aops_chunk 1 fun Q0 q0 => ?_
  simp only [↓bO, go_sem, seval, Sch.cells]
  refine q0 _ ?_
  clear q0 Q0
  simp only [go_sem]
  simp only [↓bO, go_sem, seval, Sch.cells]
  refine y0 _ ?_
  try clear y0 Y0
  refine AWp_ret ?_
  try simp only [thenQ, blockQ, noGotoQ, retQ, aRes, tupOf, bS, bA]
  exact Le.refl _
theorem Free1_pure (s : Sch) (v : Int) (hl : s.vs.length ≤ 1099511627776) : APure Tryd.prog 42 [.v (.int .i64 v), .eptr s.cells] (.v (.bool (decide (v ∈ s.vs)))) := by
  refine APure.mkL (.cons (.v _) (.cons Sch.eptr .nil)) (.v _) ?_
  refine ACalls_intro Tryd.func42 (by kernel_rfl) rfl (by rw [Tryd.ntmps42]; simp) (fun hm => ?_)
  simp only [Tryd.ntmps42, Tryd.results42, List.length_cons, List.length_nil, Nat.reduceAdd, Nat.reduceSub, List.replicate_succ, List.replicate_zero, List.cons_append, List.nil_append]
  refine AWp_seqK fun Y0 y0 => ?_
  refine AWp_region ?_
  simp only [↓bO, go_sem, seval, Sch.cells]
  refine y0 _ ?_
  try clear y0 Y0
  refine AWp_seqK fun Y0 y0 => ?_
  refine AWp_region ?_
  iterate 3 (refine aops_chunk 1 fun Q0 q0 => ?_; simp only [↓bO, go_sem, seval, Sch.cells]; refine q0 _ ?_; clear q0 Q0; simp only [go_sem])
  refine aops_chunk 1 fun Q0 q0 => ?_
  simp only [↓bO, go_sem, seval, Sch.cells]
  refine APure.call (Cont_pure s.vs v hl) ?_
  try simp only [bS, bA, thenQ, blockQ, noGotoQ]
  refine q0 _ ?_
  clear q0 Q0
  simp only [go_sem]
  simp only [↓bO, go_sem, seval, Sch.cells]
  refine y0 _ ?_
  try clear y0 Y0
  refine AWp_ret ?_
  try simp only [thenQ, blockQ, noGotoQ, retQ, aRes, tupOf, bS, bA]
  exact Le.refl _
theorem More1_pure (s : Sch) (v : Int) (hl : s.vs.length ≤ 1099511627776) : APure Tryd.prog 49 [.v (.int .i64 v), .eptr s.cells] (.v (.bool (decide (v ∈ s.vs)))) := by
  refine APure.mkL (.cons (.v _) (.cons Sch.eptr .nil)) (.v _) ?_
  refine ACalls_intro Tryd.func49 (by kernel_rfl) rfl (by rw [Tryd.ntmps49]; simp) (fun hm => ?_)
  simp only [Tryd.ntmps49, Tryd.results49, List.length_cons, List.length_nil, Nat.reduceAdd, Nat.reduceSub, List.replicate_succ, List.replicate_zero, List.cons_append, List.nil_append]
  refine AWp_seqK fun Y0 y0 => ?_
  refine AWp_region ?_
  simp only [↓bO, go_sem, seval, Sch.cells]
  refine y0 _ ?_
  try clear y0 Y0
  refine AWp_seqK fun Y0 y0 => ?_
  refine AWp_region ?_
  iterate 3 (refine aops_chunk 1 fun Q0 q0 => ?_; simp only [↓bO, go_sem, seval, Sch.cells]; refine q0 _ ?_; clear q0 Q0; simp only [go_sem])
  refine aops_chunk 1 fun Q0 q0 => ?_
  simp only [↓bO, go_sem, seval, Sch.cells]
  refine APure.call (Cont_pure s.vs v hl) ?_
  try simp only [bS, bA, thenQ, blockQ, noGotoQ]
  refine q0 _ ?_
  clear q0 Q0
  simp only [go_sem]
  simp only [↓bO, go_sem, seval, Sch.cells]
  refine y0 _ ?_
  try clear y0 Y0
  refine AWp_ret ?_
  try simp only [thenQ, blockQ, noGotoQ, retQ, aRes, tupOf, bS, bA]
  exact Le.refl _
theorem SRight_pure (s : Sch) (hc : s.t.cnt ≤ 1048576) (hv : s.vs.length ≤ 1099511627776) : APure Tryd.prog 13 [.agg s.cells] (.v (.bool s.ok)) := by
  refine APure.mkL (.cons Sch.agg .nil) (.v _) ?_
  refine ACalls_intro Tryd.func13 (by kernel_rfl) rfl (by rw [Tryd.ntmps13]; simp) (fun hm => ?_)
  simp only [Tryd.ntmps13, Tryd.results13, List.length_cons, List.length_nil, Nat.reduceAdd, Nat.reduceSub, List.replicate_succ, List.replicate_zero, List.cons_append, List.nil_append]
  have hal := s.all_len
  have hall : (Ty.rvarsL [s.t] []) = s.all := rfl
  refine AWp_joinZ (mB 18 2) ([(1, .eptr s.cells)]) [] 0 (True) ?_ (fun hC => ?_)
  ·
   refine AWp_region ?_
   refine aops_chunk 1 fun Q0 q0 => ?_
   simp only [↓bO, go_sem, seval, Sch.cells]
   refine q0 _ ?_
   clear q0 Q0
   simp only [go_sem]
   simp only [↓bO, go_sem, seval, Sch.cells]
   try simp only [maskL, setsL, putsO, putO, mB, List.set_cons_zero, List.set_cons_succ, seval]
   first | refine ⟨trivial, ?_⟩ | skip
   refine Weak.freeze ?_ trivial (by first | omega | (simp only; omega)) (by first | omega | (simp only; omega)) ?_ ?_
   · repeat' first | trivial | exact .inr ⟨_, _, _, rfl, rfl, rfl, rfl⟩ | exact .inl (.refl _) | exact .inl (.any _) | (refine ⟨?_, ?_⟩)
   · repeat' first | exact trivial | exact .any _ | exact .v _ _ | exact .ptr (by omega) | exact Und.data (dataInts _) | exact Und.data Sch.eptr | exact Und.data Sch.agg | exact Und.data (Ty.dataSl _) | exact Und.data (.eptr (Ty.data _)) | exact Und.data (.eptr (.cons (dataInts _) .nil)) | exact .own (by omega) | (refine ⟨?_, ?_⟩)
   · repeat' first | exact trivial | (with_reducible omega) | exact Und.rowI (iD_data _) | exact UndL.data (Ty.data _) | exact UndL.data (Sch.data _) | exact .v _ _ | (refine ⟨?_, ?_⟩)
  simp only [maskL, setsL, putsO, putO, mB, List.set_cons_zero, List.set_cons_succ, seval]
  refine AWp_seqK fun Y0 y0 => ?_
  refine AWp_seqK fun Y1 y1 => ?_
  refine AWp_region ?_
  iterate 2 (refine aops_chunk 1 fun Q0 q0 => ?_; simp only [↓bO, go_sem, seval, Sch.cells]; refine q0 _ ?_; clear q0 Q0; simp only [go_sem])
  refine aops_chunk 1 fun Q0 q0 => ?_
  simp only [↓bO, go_sem, seval, Sch.cells]
  refine APure.call (Right_pure s.t) ?_
  try simp only [bS, bA, thenQ, blockQ, noGotoQ]
  refine q0 _ ?_
  clear q0 Q0
  simp only [go_sem]
  simp only [↓bO, go_sem, seval, Sch.cells]
  refine y1 _ ?_
  try clear y1 Y1
  refine AWp_cond rfl (fun hb7 => ?_) (fun hb7 => ?_)
  ·
   have hr : s.t.right = false := by simpa using hb7
   refine AWp_seqK fun Y1 y1 => ?_
   refine AWp_region ?_
   simp only [↓bO, go_sem, seval, Sch.cells]
   refine y1 _ ?_
   try clear y1 Y1
   refine AWp_ret ?_
   try simp only [thenQ, blockQ, noGotoQ, retQ, aRes, tupOf, bS, bA]
   unfold Sch.ok
   rw [hr]
   exact Le.refl _
  ·
   have hr : s.t.right = true := by simpa using hb7
   refine AWp_skip ?_
   try simp only [thenQ, blockQ, noGotoQ]
   refine y0 _ ?_
   try clear y0 Y0
   refine AWp_seqK fun Y0 y0 => ?_
   refine AWp_region ?_
   iterate 2 (refine aops_chunk 1 fun Q0 q0 => ?_; simp only [↓bO, go_sem, seval, Sch.cells]; refine q0 _ ?_; clear q0 Q0; simp only [go_sem])
   refine aops_chunk 1 fun Q0 q0 => ?_
   simp only [↓bO, go_sem, seval, ↓bs1_1, ↓bs1_2, ↓bs1_3, ↓bs1_4, ↓bs1_5, ↓bs1_6, ↓bs1_7, ↓bs1_8, ↓bs1_9, ↓bs1_10, ↓bs1_11, ↓bs1_12, Sch.cells]
   refine q0 _ ?_
   clear q0 Q0
   simp only [go_sem]
   refine aops_chunk 1 fun Q0 q0 => ?_
   simp only [↓bO, go_sem, seval, Sch.cells]
   refine ACalls.fresh (R' := .own 0 (Ty.rvarsL [s.t] []).length) (os1' := [(0, .row 3 1 ((Ty.rvarsL [s.t] []).map intC))]) (OVars_calls [s.t] (by simp only [Ty.cntL]; omega)) (.cons (show Data (.sl 3 [s.t.cells]) from Ty.dataSl [s.t]) .nil) (.own rfl) (by simp) ⟨rfl, .row (iD_data _), trivial⟩ ?_
   simp only [List.cons_append, List.nil_append, Nat.zero_add]
   try simp only [bS, bA, thenQ, blockQ, noGotoQ]
   refine q0 _ ?_
   clear q0 Q0
   simp only [go_sem]
   simp only [↓bO, go_sem, seval, Sch.cells]
   refine y0 _ ?_
   try clear y0 Y0
   refine AWp_seqK fun Y0 y0 => ?_
   refine NAny_start 7 [1] rfl mixed ?_
   dsimp only
   refine NAny_takeK 0 rfl (by kernel_rfl) (by kernel_rfl) (by kernel_rfl) (fun _ _ h => h) (by kernel_rfl) (fun d h => by cases h; rfl) (by kernel_rfl) (G' := [12, 1]) (by kernel_rfl) fun Q0 q0 => ?_
   simp only [↓bO, go_sem, seval, nHead, isE, isSE, isV, Sch.cells]
   refine q0 _ ?_
   clear q0 Q0
   refine NAny_takeK 1 rfl (by kernel_rfl) (by kernel_rfl) (by kernel_rfl) (fun _ _ h => h) (by kernel_rfl) (fun d h => by cases h; rfl) (by kernel_rfl) (G' := [13, 12, 1]) (by kernel_rfl) fun Q0 q0 => ?_
   simp only [↓bO, go_sem, seval, nHead, isE, isSE, isV, Sch.cells]
   refine q0 _ ?_
   clear q0 Q0
   refine NAny_takeK 2 rfl (by kernel_rfl) (by kernel_rfl) (by kernel_rfl) (fun _ _ h => h) (by kernel_rfl) (fun d h => by cases h; rfl) (by kernel_rfl) (G' := [13, 12, 1]) (by kernel_rfl) fun Q0 q0 => ?_
   simp only [↓bO, go_sem, seval, nHead, isE, isSE, isV, Sch.cells]
   refine q0 _ ?_
   clear q0 Q0
   refine NAny_all1 (i := 3) (by kernel_rfl) rfl (fun d h => by cases h; rfl) ?_
   refine aAt_op rfl rfl fun Q0 q0 => ?_
   simp only [↓bO, go_sem, seval, Sch.cells]
   refine q0 _ ⟨⟨rfl, rfl, rfl, trivial⟩, ?_⟩
   clear q0 Q0
   refine NAny_all1 (i := 4) (by kernel_rfl) rfl (fun d h => by cases h; rfl) ?_
   refine aAt_op rfl rfl fun Q0 q0 => ?_
   simp only [↓bO, go_sem, seval, Sch.cells]
   refine ACalls.eats (DelF_calls (Ty.rvarsL [s.t] []) 39 [.eptr s.cells] (fun v => !decide (v ∈ s.vs)) (by rw [hall]; omega) (.cons Sch.eptr .nil) (fun v _ => Right1s_pure s v hv)) (by first | omega | (simp only; omega)) ⟨.own rfl, .data (.clo (.cons Sch.eptr .nil)), trivial⟩ (dataInts _) rfl (.row (iD_data _)) ?_
   simp only [delO, List.filter_cons, List.filter_nil, Nat.reduceBEq, Bool.not_true, Bool.not_false, ↓reduceIte, Bool.false_eq_true]
   try simp only [bS, bA]
   refine q0 _ ⟨⟨rfl, rfl, rfl, trivial⟩, ?_⟩
   clear q0 Q0
   refine NAny_all1 (i := 5) (by kernel_rfl) rfl (fun d h => by cases h; rfl) ?_
   refine aAt_op rfl rfl fun Q0 q0 => ?_
   simp only [↓bO, go_sem, seval, Sch.cells]
   refine APure.call (EqI_pure s.vs _ hv) ?_
   try simp only [bS, bA]
   refine q0 _ ⟨⟨rfl, rfl, rfl, trivial⟩, ?_⟩
   clear q0 Q0
   refine NAny_all1 (i := 6) (by kernel_rfl) rfl (fun d h => by cases h; rfl) ?_
   refine aAt_op rfl rfl fun Q0 q0 => ?_
   simp only [↓bO, go_sem, seval, Sch.cells]
   refine q0 _ ⟨⟨rfl, rfl, rfl, trivial⟩, ?_⟩
   clear q0 Q0
   refine NAny_done (by kernel_rfl) ?_
   simp only [thenQ, blockQ, noGotoQ]
   refine y0 _ ?_
   try clear y0 Y0
   refine AWp_ret ?_
   try simp only [thenQ, blockQ, noGotoQ, retQ, aRes, tupOf, bS, bA]
   unfold Sch.ok
   rw [hr]
   rw [Bool.true_and]
   simp only [Bool.not_not]
   exact Le.refl _
theorem SFree_pure (s : Sch) (hc : s.t.cnt ≤ 1048576) (hv : s.vs.length ≤ 1099511627776) : APure Tryd.prog 19 [.agg s.cells] (.sl 1 ((if s.ok = true then s.free else []).map intC)) := by
  refine APure.mkL (.cons Sch.agg .nil) ((dataInts _)) ?_
  refine ACalls_intro Tryd.func19 (by kernel_rfl) rfl (by rw [Tryd.ntmps19]; simp) (fun hm => ?_)
  simp only [Tryd.ntmps19, Tryd.results19, List.length_cons, List.length_nil, Nat.reduceAdd, Nat.reduceSub, List.replicate_succ, List.replicate_zero, List.cons_append, List.nil_append]
  have hal := s.all_len
  have hall : (Ty.rvarsL [s.t] []) = s.all := rfl
  refine AWp_joinZ (mB 12 2) ([(1, .eptr s.cells)]) [] 0 (True) ?_ (fun hC => ?_)
  ·
   refine AWp_region ?_
   refine aops_chunk 1 fun Q0 q0 => ?_
   simp only [↓bO, go_sem, seval, Sch.cells]
   refine q0 _ ?_
   clear q0 Q0
   simp only [go_sem]
   simp only [↓bO, go_sem, seval, Sch.cells]
   try simp only [maskL, setsL, putsO, putO, mB, List.set_cons_zero, List.set_cons_succ, seval]
   first | refine ⟨trivial, ?_⟩ | skip
   refine Weak.freeze ?_ trivial (by first | omega | (simp only; omega)) (by first | omega | (simp only; omega)) ?_ ?_
   · repeat' first | trivial | exact .inr ⟨_, _, _, rfl, rfl, rfl, rfl⟩ | exact .inl (.refl _) | exact .inl (.any _) | (refine ⟨?_, ?_⟩)
   · repeat' first | exact trivial | exact .any _ | exact .v _ _ | exact .ptr (by omega) | exact Und.data (dataInts _) | exact Und.data Sch.eptr | exact Und.data Sch.agg | exact Und.data (Ty.dataSl _) | exact Und.data (.eptr (Ty.data _)) | exact Und.data (.eptr (.cons (dataInts _) .nil)) | exact .own (by omega) | (refine ⟨?_, ?_⟩)
   · repeat' first | exact trivial | (with_reducible omega) | exact Und.rowI (iD_data _) | exact UndL.data (Ty.data _) | exact UndL.data (Sch.data _) | exact .v _ _ | (refine ⟨?_, ?_⟩)
  simp only [maskL, setsL, putsO, putO, mB, List.set_cons_zero, List.set_cons_succ, seval]
  refine AWp_seqK fun Y0 y0 => ?_
  refine AWp_seqK fun Y1 y1 => ?_
  refine AWp_region ?_
  refine aops_chunk 1 fun Q0 q0 => ?_
  simp only [↓bO, go_sem, seval, Sch.cells]
  refine q0 _ ?_
  clear q0 Q0
  simp only [go_sem]
  refine aops_chunk 1 fun Q0 q0 => ?_
  simp only [↓bO, go_sem, seval, Sch.cells]
  refine APure.call (SRight_pure s hc hv) ?_
  try simp only [bS, bA, thenQ, blockQ, noGotoQ]
  refine q0 _ ?_
  clear q0 Q0
  simp only [go_sem]
  simp only [↓bO, go_sem, seval, Sch.cells]
  refine y1 _ ?_
  try clear y1 Y1
  refine AWp_cond rfl (fun hb5 => ?_) (fun hb5 => ?_)
  ·
   have hr : s.ok = false := by simpa using hb5
   refine AWp_seqK fun Y1 y1 => ?_
   refine AWp_region ?_
   simp only [↓bO, go_sem, seval, Sch.cells]
   refine y1 _ ?_
   try clear y1 Y1
   refine AWp_ret ?_
   try simp only [thenQ, blockQ, noGotoQ, retQ, aRes, tupOf, bS, bA]
   rw [hr]
   exact Le.slNil 1
  ·
   have hr : s.ok = true := by simpa using hb5
   refine AWp_skip ?_
   try simp only [thenQ, blockQ, noGotoQ]
   refine y0 _ ?_
   try clear y0 Y0
   refine AWp_seqK fun Y0 y0 => ?_
   refine AWp_region ?_
   iterate 2 (refine aops_chunk 1 fun Q0 q0 => ?_; simp only [↓bO, go_sem, seval, Sch.cells]; refine q0 _ ?_; clear q0 Q0; simp only [go_sem])
   refine aops_chunk 1 fun Q0 q0 => ?_
   simp only [↓bO, go_sem, seval, ↓bs1_1, ↓bs1_2, ↓bs1_3, ↓bs1_4, ↓bs1_5, ↓bs1_6, ↓bs1_7, ↓bs1_8, ↓bs1_9, ↓bs1_10, ↓bs1_11, ↓bs1_12, Sch.cells]
   refine q0 _ ?_
   clear q0 Q0
   simp only [go_sem]
   refine aops_chunk 1 fun Q0 q0 => ?_
   simp only [↓bO, go_sem, seval, Sch.cells]
   refine ACalls.fresh (R' := .own 0 (Ty.rvarsL [s.t] []).length) (os1' := [(0, .row 3 1 ((Ty.rvarsL [s.t] []).map intC))]) (OVars_calls [s.t] (by simp only [Ty.cntL]; omega)) (.cons (show Data (.sl 3 [s.t.cells]) from Ty.dataSl [s.t]) .nil) (.own rfl) (by simp) ⟨rfl, .row (iD_data _), trivial⟩ ?_
   simp only [List.cons_append, List.nil_append, Nat.zero_add]
   try simp only [bS, bA, thenQ, blockQ, noGotoQ]
   iterate 2 (refine q0 _ ?_; clear q0 Q0; simp only [go_sem]; refine aops_chunk 1 fun Q0 q0 => ?_; simp only [↓bO, go_sem, seval, Sch.cells])
   refine ACalls.eats (DelF_calls (Ty.rvarsL [s.t] []) 42 [.eptr s.cells] (fun v => decide (v ∈ s.vs)) (by rw [hall]; omega) (.cons Sch.eptr .nil) (fun v _ => Free1_pure s v hv)) (by first | omega | (simp only; omega)) ⟨.own rfl, .data (.clo (.cons Sch.eptr .nil)), trivial⟩ (dataInts _) rfl (.row (iD_data _)) ?_
   simp only [delO, List.filter_cons, List.filter_nil, Nat.reduceBEq, Bool.not_true, Bool.not_false, ↓reduceIte, Bool.false_eq_true]
   try simp only [bS, bA, thenQ, blockQ, noGotoQ]
   refine q0 _ ?_
   clear q0 Q0
   simp only [go_sem]
   simp only [↓bO, go_sem, seval, Sch.cells]
   refine y0 _ ?_
   try clear y0 Y0
   refine AWp_ret ?_
   try simp only [thenQ, blockQ, noGotoQ, retQ, aRes, tupOf, bS, bA]
   rw [hr]
   exact Le.refl _
end Go.Proofs.YtheacaigeidflaaDoor
namespace Go.Proofs.YtheacaigeidflaaDoor
open Go Go.RowKit
def tC (t : Ty) : AV := .agg t.cells
def mTC (m : List (Int × Ty)) : List (Int × AV) := m.map fun p => (p.1, tC p.2)
theorem mC_nil : mTC [] = [] := rfl
theorem mC_data (m : List (Int × Ty)) : ∀ p ∈ mTC m, Data p.2 := fun p hp => by
  obtain ⟨q, _, rfl⟩ := List.mem_map.1 hp
  exact Ty.dataAgg _
theorem mSome (m : List (Int × Ty)) (k : Int) : (aFind (mTC m) k).isSome = (pfind m k).isSome := by rw [mTC, aFind_p]; cases pfind m k <;> rfl
theorem mSet (m : List (Int × Ty)) (k : Int) (t : Ty) : aSet (mTC m) k (.agg t.cells) = mTC (pset m k t) := aSet_p tC k t m
def zT : AV := .agg [.v (.int .i64 0), .v (.int .i64 0), .v (.slice none 0 0)]
theorem valAV_ty : valAV (.agg #[.int .i64 0, .int .i64 0, .slice none 0 0]) = zT := rfl
theorem mGet {m : List (Int × Ty)} {k : Int} {x : Ty} (h : pfind m k = some x) (z : AV) : (aFind (mTC m) k).getD z = .agg x.cells := by rw [mTC, aFind_p, h]; rfl
theorem lookTy (m : List (Int × Ty)) (k : Int) : ∃ cs : List AV, (aFind (mTC m) k).getD zT = .agg cs ∧ cs.length = 3 ∧ cs.all AV.one = true ∧ cs.take 3 = cs ∧ ∀ x, pfind m k = some x → cs = x.cells := by
  cases h : pfind m k with
  | none => exact ⟨[.v (.int .i64 0), .v (.int .i64 0), .v (.slice none 0 0)], by rw [mTC, aFind_p, h]; rfl, rfl, rfl, rfl, fun x hx => by cases hx⟩
  | some x => exact ⟨x.cells, mGet h _, x.cells_len, x.cells_one, x.cells_take3, fun y hy => by cases hy; rfl⟩
def MCalls (f : Nat) (args : List AV) (m : List (Int × Ty)) (R : AV) (m1 : List (Int × Ty)) : Prop :=
  ACalls Tryd.prog f args (enumO 0 [.map (mTC m)]) 1 fun r os n => (r = R ∧ os = enumO 0 [.map (mTC m1)]) ∧ n = 1
theorem Und.mTC {n : Nat} (m : List (Int × Ty)) : (∀ p ∈ Go.Proofs.YtheacaigeidflaaDoor.mTC m, Und n p.2) = True := eq_true fun p hp => .data (mC_data m p hp)
theorem mUnd {n : Nat} (h : 1 ≤ n) (m : List (Int × Ty)) : UndOs n (enumO 0 [.map (mTC m)]) := ⟨by omega, fun p hp => .data (mC_data m p hp), trivial⟩
theorem MCalls.at {f : Nat} {args : List AV} {m m1 : List (Int × Ty)} {R : AV} (h : MCalls f (.map 0 :: args) m R m1) (hd : DataL args) (hR : Data R) {i : Nat} {os' : Os} {nx' : Nat}
    (hi : getO os' i = some (.map (mTC m))) (li : i < nx') {Q' : AV → Os → Nat → Prop} (hq : Q' R (putO os' i (.map (mTC m1))) nx') : ACalls Tryd.prog f (.map i :: args) os' nx' Q' := by
  have same : ∀ (l : List AV), DataL l → RenL (renOf [i] nx') l l := by
    intro l hl
    induction l with
    | nil => trivial
    | cons x l ih => exact ⟨.data (hl x (by simp)), ih fun y hy => hl y (by simp [hy])⟩
  have ren : ∀ m : List (Int × Ty), RenOs (renOf [i] nx') 0 [.map (mTC m)] [.map (mTC m)] := fun m => ⟨.map (mC_data m), trivial⟩
  refine ACalls.at (args := .map 0 :: args) (obs := [.map (mTC m)]) (obs1 := [.map (mTC m1)]) (obs' := [.map (mTC m)]) (obs1' := [.map (mTC m1)]) [i] ?_ rfl rfl (by simp) (by simpa using li) ⟨.map rfl, same args hd⟩ (.data hR) (ren m) ⟨hi, trivial⟩ (ren m1) hq
  exact h.mono fun r os n ⟨⟨h1, h2⟩, h3⟩ => ⟨h1, h2, h3⟩
end Go.Proofs.YtheacaigeidflaaDoor
namespace Go.Proofs.YtheacaigeidflaaDoor
open Go Go.RowKit
set_option maxRecDepth 100000
set_option maxHeartbeats 4000000
set_option linter.unusedSimpArgs false
set_option linter.unusedVariables false
attribute [local irreducible] aops dRun
theorem Ty.matchL_append : ∀ (ps qs ps' qs' : List Ty) (m : List (Int × Ty)), ps.length = qs.length → Ty.matchL (ps ++ ps') (qs ++ qs') m = if (Ty.matchL ps qs m).1 then Ty.matchL ps' qs' (Ty.matchL ps qs m).2 else (false, (Ty.matchL ps qs m).2)
  | [], [], ps', qs', m, _ => by simp [Ty.matchL]
  | [], _ :: _, _, _, _, h => by simp at h
  | _ :: _, [], _, _, _, h => by simp at h
  | p :: ps, q :: qs, ps', qs', m, h => by
    simp only [List.cons_append, Ty.matchL]
    by_cases h1 : (p.match q m).1
    · simp only [h1, if_true]; exact Ty.matchL_append ps qs ps' qs' _ (by simpa using h)
    · simp [h1]
theorem Ty.matchL_one (p q : Ty) (m : List (Int × Ty)) : Ty.matchL [p] [q] m = p.match q m := by
  rw [Ty.matchL]
  split
  · rename_i h; rw [Ty.matchL]; exact Prod.ext h.symm rfl
  · rename_i h; exact Prod.ext (by simpa using (Bool.not_eq_true _ ▸ h : (p.match q m).1 = false).symm) rfl
theorem Ty.matchL_step {ps qs : List Ty} {s : Nat} {p q : Ty} (hp : ps[s]? = some p) (hq : qs[s]? = some q) (hl : ps.length = qs.length) (m : List (Int × Ty)) (h : (Ty.matchL (ps.take s) (qs.take s) m).1 = true) :
    Ty.matchL (ps.take (s + 1)) (qs.take (s + 1)) m = p.match q (Ty.matchL (ps.take s) (qs.take s) m).2 := by
  rw [List.take_add_one, List.take_add_one, hp, hq, Ty.matchL_append _ _ _ _ _ (by simp [hl]), if_pos h]
  exact Ty.matchL_one p q _
theorem Ty.matchL_stop {ps qs : List Ty} {s : Nat} {p q : Ty} (hp : ps[s]? = some p) (hq : qs[s]? = some q) (hl : ps.length = qs.length) (m : List (Int × Ty)) (h : (Ty.matchL (ps.take s) (qs.take s) m).1 = true)
    (h2 : (p.match q (Ty.matchL (ps.take s) (qs.take s) m).2).1 = false) : Ty.matchL ps qs m = (false, (p.match q (Ty.matchL (ps.take s) (qs.take s) m).2).2) := by
  have e := Ty.matchL_step hp hq hl m h
  conv => lhs; rw [← List.take_append_drop (s + 1) ps, ← List.take_append_drop (s + 1) qs]
  rw [Ty.matchL_append _ _ _ _ _ (by simp [hl]), e, if_neg (by rw [h2]; simp)]
theorem Ty.stand_cnt (v : Int) : ∀ (g t x : Ty), g.stand v t = some x → x.cnt ≤ t.cnt := by
  refine Ty.ind fun g ih t x h => ?_
  rw [Ty.stand_eq] at h
  split at h
  · cases h; exact Nat.le_refl _
  · have hL : ∀ (ps us : List Ty), (∀ p ∈ ps, ∀ t x : Ty, p.stand v t = some x → x.cnt ≤ t.cnt) → Ty.standL v ps us = some x → x.cnt ≤ Ty.cntL us := by
      intro ps
      induction ps with
      | nil => intro us _ h; rw [Ty.standL] at h; cases h
      | cons p ps ih2 =>
        intro us hp h
        cases us with
        | nil => rw [Ty.standL] at h; cases h
        | cons u us =>
          rw [Ty.standL] at h
          rw [Ty.cntL]
          split at h
          · rename_i y hy; cases h; have := hp p (by simp) u _ hy; omega
          · have := ih2 us (fun p hp' => hp p (by simp [hp'])) h; omega
    have := hL g.ps t.ps ih h
    rw [t.cnt_eq]; omega
theorem match_calls : ∀ (T U : Ty) (m : List (Int × Ty)), MCalls 70 [.map 0, .agg T.cells, .agg U.cells] m (.v (.bool (T.match U m).1)) (T.match U m).2 := by
  refine Ty.ind fun T ih U m => ?_
  refine ACalls.clean (C := fun r os => r = _ ∧ os = _) ?_
  refine ACalls_intro Tryd.func70 (by kernel_rfl) rfl (by rw [Tryd.ntmps70]; simp) (fun hm => ?_)
  simp only [Tryd.ntmps70, Tryd.results70, List.length_cons, List.length_nil, Nat.reduceAdd, Nat.reduceSub, List.replicate_succ, List.replicate_zero, List.cons_append, List.nil_append]
  obtain ⟨cs, hcs, hl3, hone, htk, hcx⟩ := lookTy m T.n
  have hm1 := hm.wide (t := T) (by simp)
  have hm2 := hm1.len
  have mSetU := mSet m T.n U
  rw [Ty.cells_eq U] at mSetU
  simp only [enumO, Nat.reduceAdd]
  simp only [Ty.cells_eq T, Ty.cells_eq U, List.cons_append, List.nil_append]
  refine AWp_seqK fun Y0 y0 => ?_
  refine AWp_region ?_
  refine aops_chunk 2 fun Q0 q0 => ?_
  simp only [↓bO, go_sem, seval, ↓valAV_ty, hcs, hl3, hone, htk, mSome, mSetU]
  refine q0 _ ?_
  clear q0 Q0
  simp only [go_sem]
  simp only [↓bO, go_sem, seval, ↓valAV_ty, hcs, hl3, hone, htk, mSome, mSetU]
  refine y0 _ ?_
  try clear y0 Y0
  refine AWp_seqK fun Y0 y0 => ?_
  refine AWp_seqK fun Y1 y1 => ?_
  refine AWp_region ?_
  refine aops_chunk 2 fun Q0 q0 => ?_
  simp only [↓bO, go_sem, seval, ↓valAV_ty, hcs, hl3, hone, htk, mSome, mSetU]
  refine q0 _ ?_
  clear q0 Q0
  simp only [go_sem]
  simp only [↓bO, go_sem, seval, ↓valAV_ty, hcs, hl3, hone, htk, mSome, mSetU]
  refine y1 _ ?_
  try clear y1 Y1
  refine AWp_cond rfl (fun hb12 => ?_) (fun hb12 => ?_)
  ·
   have hk1 : T.k = 1 := by simpa using hb12
   refine AWp_seqK fun Y1 y1 => ?_
   refine AWp_region ?_
   iterate 4 (refine aops_chunk 2 fun Q0 q0 => ?_; simp only [↓bO, go_sem, seval, ↓valAV_ty, hcs, hl3, hone, htk, mSome, mSetU]; refine q0 _ ?_; clear q0 Q0; simp only [go_sem])
   simp only [↓bO, go_sem, seval, ↓valAV_ty, hcs, hl3, hone, htk, mSome, mSetU]
   refine y1 _ ?_
   try clear y1 Y1
   refine AWp_seqK fun Y1 y1 => ?_
   refine AWp_seqK fun Y2 y2 => ?_
   refine AWp_region ?_
   simp only [↓bO, go_sem, seval, ↓valAV_ty, hcs, hl3, hone, htk, mSome, mSetU]
   refine y2 _ ?_
   try clear y2 Y2
   refine AWp_cond rfl (fun hb21 => ?_) (fun hb21 => ?_)
   ·
    have hS : (pfind m T.n).isSome = false := by simpa using hb21
    have hfn : pfind m T.n = none := by cases hv : pfind m T.n with | none => rfl | some y => rw [hv] at hS; cases hS
    simp only [hS]
    refine AWp_region ?_
    iterate 2 (refine aops_chunk 2 fun Q0 q0 => ?_; simp only [↓bO, go_sem, seval, ↓valAV_ty, hcs, hl3, hone, htk, mSome, mSetU]; refine q0 _ ?_; clear q0 Q0; simp only [go_sem])
    simp only [↓bO, go_sem, seval, ↓valAV_ty, hcs, hl3, hone, htk, mSome, mSetU]
    refine y1 _ ?_
    try clear y1 Y1
    refine AWp_seqK fun Y1 y1 => ?_
    refine AWp_region ?_
    iterate 3 (refine aops_chunk 2 fun Q0 q0 => ?_; simp only [↓bO, go_sem, seval, ↓valAV_ty, hcs, hl3, hone, htk, mSome, mSetU]; refine q0 _ ?_; clear q0 Q0; simp only [go_sem])
    simp only [↓bO, go_sem, seval, ↓valAV_ty, hcs, hl3, hone, htk, mSome, mSetU]
    refine y1 _ ?_
    try clear y1 Y1
    refine AWp_ret ?_
    try simp only [thenQ, blockQ, noGotoQ, retQ, aRes, tupOf, bS, bA]
    have hg : T.match U m = (true, pset m T.n U) := by rw [Ty.match_var hk1, hfn]
    rw [hg]
    refine ⟨_, enumO 0 [.map (mTC (pset m T.n U))], ⟨rfl, rfl⟩, .v _ _, mUnd (by omega) _, ?_, ?_, by omega⟩
    ·
     refine Le.of_eq ?_
     rfl
    · first | (refine ⟨3, rfl, rfl⟩) | (refine ⟨2, rfl, rfl⟩)
   ·
    have hS : (pfind m T.n).isSome = true := by simpa using hb21
    obtain ⟨x, hfx⟩ := Option.isSome_iff_exists.1 hS
    have hce := hcx x hfx
    subst hce
    simp only [hS]
    refine AWp_skip ?_
    try simp only [thenQ, blockQ, noGotoQ]
    refine y1 _ ?_
    try clear y1 Y1
    refine AWp_seqK fun Y1 y1 => ?_
    refine AWp_region ?_
    iterate 2 (refine aops_chunk 2 fun Q0 q0 => ?_; simp only [↓bO, go_sem, seval, ↓valAV_ty, hcs, hl3, hone, htk, mSome, mSetU]; refine q0 _ ?_; clear q0 Q0; simp only [go_sem])
    refine aops_chunk 1 fun Q0 q0 => ?_
    simp only [↓bO, go_sem, seval, ↓valAV_ty, hcs, hl3, hone, htk, mSome, mSetU]
    refine q0 _ ?_
    clear q0 Q0
    simp only [go_sem]
    refine aops_chunk 1 fun Q0 q0 => ?_
    simp only [↓bO, go_sem, seval, ↓valAV_ty, hcs, hl3, hone, htk, mSome, mSetU]
    refine APure.call (by have h9 := TSame_pure x U; rw [Ty.cells_eq U] at h9; exact h9) ?_
    try simp only [bS, bA, thenQ, blockQ, noGotoQ]
    refine q0 _ ?_
    clear q0 Q0
    simp only [go_sem]
    simp only [↓bO, go_sem, seval, ↓valAV_ty, hcs, hl3, hone, htk, mSome, mSetU]
    refine y1 _ ?_
    try clear y1 Y1
    refine AWp_ret ?_
    try simp only [thenQ, blockQ, noGotoQ, retQ, aRes, tupOf, bS, bA]
    have hg : T.match U m = (x.same U, m) := by rw [Ty.match_var hk1, hfx]
    rw [hg]
    refine ⟨_, enumO 0 [.map (mTC (m))], ⟨rfl, rfl⟩, .v _ _, mUnd (by omega) _, ?_, ?_, by omega⟩
    ·
     refine Le.of_eq ?_
     rfl
    · first | (refine ⟨3, rfl, rfl⟩) | (refine ⟨2, rfl, rfl⟩)
  ·
   have hk1 : ¬ T.k = 1 := by simpa using hb12
   refine AWp_skip ?_
   try simp only [thenQ, blockQ, noGotoQ]
   refine y0 _ ?_
   try clear y0 Y0
   refine AWp_seqK fun Y0 y0 => ?_
   refine AWp_seqK fun Y1 y1 => ?_
   refine AWp_region ?_
   iterate 3 (refine aops_chunk 2 fun Q0 q0 => ?_; simp only [↓bO, go_sem, seval, ↓valAV_ty, hcs, hl3, hone, htk, mSome, mSetU]; refine q0 _ ?_; clear q0 Q0; simp only [go_sem])
   refine aops_case 38 rfl (fun hc38 => ?_) (fun hc38 => ?_)
   ·
    simp only [List.set_cons_zero, List.set_cons_succ]
    have hno : ¬ (T.k = U.k ∧ T.ps.length = U.ps.length) := fun h9 => by have h8 := h9.1; simp at hc38; exact hc38 h8
    iterate 3 (refine aops_chunk 2 fun Q0 q0 => ?_; simp only [↓bO, go_sem, seval, ↓valAV_ty, hcs, hl3, hone, htk, mSome, mSetU]; refine q0 _ ?_; clear q0 Q0; simp only [go_sem])
    simp only [↓bO, go_sem, seval, ↓valAV_ty, hcs, hl3, hone, htk, mSome, mSetU]
    refine y1 _ ?_
    try clear y1 Y1
    refine AWp_cond (b := true) (by first | exact rfl | exact congrArg (fun b => AV.v (.bool b)) hb46) (fun _ => ?_) (fun h => (by cases h))
    refine AWp_seqK fun Y1 y1 => ?_
    refine AWp_region ?_
    simp only [↓bO, go_sem, seval, ↓valAV_ty, hcs, hl3, hone, htk, mSome, mSetU]
    refine y1 _ ?_
    try clear y1 Y1
    refine AWp_ret ?_
    try simp only [thenQ, blockQ, noGotoQ, retQ, aRes, tupOf, bS, bA]
    have hg : T.match U m = (false, m) := Ty.match_no hk1 hno
    rw [hg]
    refine ⟨_, enumO 0 [.map (mTC (m))], ⟨rfl, rfl⟩, .v _ _, mUnd (by omega) _, ?_, ?_, by omega⟩
    ·
     refine Le.of_eq ?_
     rfl
    · first | (refine ⟨2, rfl, rfl⟩)
   ·
    simp only [List.set_cons_zero, List.set_cons_succ]
    have hkk : T.k = U.k := by simpa using hc38
    iterate 3 (refine aops_chunk 2 fun Q0 q0 => ?_; simp only [↓bO, go_sem, seval, ↓valAV_ty, hcs, hl3, hone, htk, mSome, mSetU]; refine q0 _ ?_; clear q0 Q0; simp only [go_sem])
    simp only [↓bO, go_sem, seval, ↓valAV_ty, hcs, hl3, hone, htk, mSome, mSetU]
    refine y1 _ ?_
    try clear y1 Y1
    refine AWp_cond rfl (fun hb46 => ?_) (fun hb46 => ?_)
    ·
     have hno : ¬ (T.k = U.k ∧ T.ps.length = U.ps.length) := fun h9 => by have := h9.2; simp at hb46; omega
     refine AWp_seqK fun Y1 y1 => ?_
     refine AWp_region ?_
     simp only [↓bO, go_sem, seval, ↓valAV_ty, hcs, hl3, hone, htk, mSome, mSetU]
     refine y1 _ ?_
     try clear y1 Y1
     refine AWp_ret ?_
     try simp only [thenQ, blockQ, noGotoQ, retQ, aRes, tupOf, bS, bA]
     have hg : T.match U m = (false, m) := Ty.match_no hk1 hno
     rw [hg]
     refine ⟨_, enumO 0 [.map (mTC (m))], ⟨rfl, rfl⟩, .v _ _, mUnd (by omega) _, ?_, ?_, by omega⟩
     ·
      refine Le.of_eq ?_
      rfl
     · first | (refine ⟨2, rfl, rfl⟩)
    ·
     have hll : T.ps.length = U.ps.length := by simp at hb46; omega
     refine AWp_skip ?_
     try simp only [thenQ, blockQ, noGotoQ]
     refine y0 _ ?_
     try clear y0 Y0
     refine AWp_seqK fun Y0 y0 => ?_
     refine AWp_seqK fun Y1 y1 => ?_
     refine AWp_region ?_
     refine aops_chunk 2 fun Q0 q0 => ?_
     simp only [↓bO, go_sem, seval, ↓valAV_ty, hcs, hl3, hone, htk, mSome, mSetU]
     refine q0 _ ?_
     clear q0 Q0
     simp only [go_sem]
     simp only [↓bO, go_sem, seval, ↓valAV_ty, hcs, hl3, hone, htk, mSome, mSetU]
     refine y1 _ ?_
     try clear y1 Y1
     refine AWp_block ?_
     refine AWp_loopM (σ := Nat) (mB 67 1688849860263985) (fun s => s ≤ T.ps.length ∧ (Ty.matchL (T.ps.take s) (U.ps.take s) m).1 = true) (fun s => [(50, .v (.int .i64 (s : Int)))]) (fun s => [(0, .map (mTC (Ty.matchL (T.ps.take s) (U.ps.take s) m).2))]) (fun s => T.ps.length - s) 0 (⟨by omega, by simp [Ty.matchL]⟩) ?_ (fun s hs => ?_)
     ·
      simp only [maskL, setsL, putsO, putO, mB, List.set_cons_zero, List.set_cons_succ, seval, bL, Ty.matchL]
      exact Weak.mk (by simp only [go_sem, Le.refl, Le.any, Le.slNil, Int.natCast_add, Int.cast_ofNat_Int, Int.natCast_one]) (fun _ _ h => h) rfl rfl
     simp only [maskL, setsL, putsO, putO, mB, List.set_cons_zero, List.set_cons_succ, seval]
     refine AWp_seqK fun Y1 y1 => ?_
     refine AWp_region ?_
     simp only [↓bO, go_sem, seval, ↓valAV_ty, hcs, hl3, hone, htk, mSome, mSetU]
     refine y1 _ ?_
     try clear y1 Y1
     refine AWp_seqK fun Y1 y1 => ?_
     refine AWp_cond rfl (fun hb51 => ?_) (fun hb51 => ?_)
     ·
      have hk : s < T.ps.length := by simpa using hb51
      have hk2 : s < U.ps.length := by omega
      obtain ⟨p, hp⟩ : ∃ p, T.ps[s]? = some p := ⟨_, List.getElem?_eq_getElem hk⟩
      obtain ⟨q, hq⟩ : ∃ q, U.ps[s]? = some q := ⟨_, List.getElem?_eq_getElem hk2⟩
      have hst := Ty.matchL_step hp hq hll m hs.2
      have hw : IntKind.i64.wrap ((s : Int) + 1) = (s : Int) + 1 := wrap_in (by omega) (by simp only [maxLen] at hm2; omega)
      refine AWp_skip ?_
      try simp only [thenQ, blockQ, noGotoQ]
      refine y1 _ ?_
      try clear y1 Y1
      refine AWp_seqK fun Y1 y1 => ?_
      refine AWp_block ?_
      refine AWp_seqK fun Y2 y2 => ?_
      refine AWp_region ?_
      simp only [↓bO, go_sem, seval, ↓valAV_ty, hcs, hl3, hone, htk, mSome, mSetU, hk, hk2, gM hp, gM hq, Int.natCast_add, hw, hst]
      refine y2 _ ?_
      try clear y2 Y2
      refine AWp_seqK fun Y2 y2 => ?_
      refine AWp_drawK 11 mixed (by kernel_rfl) fun J0 j0 => ?_
      iterate 5 (simp only [go_sem]; refine dRun_chunk 2 fun Q0 q0 => ?_; simp only [↓dRun, ↓dOp, ↓bO, go_sem, seval, ↓valAV_ty, hcs, hl3, hone, htk, mSome, mSetU, hk, hk2, gM hp, gM hq, Int.natCast_add, hw, hst]; refine q0 _ ?_; clear q0 Q0)
      simp only [go_sem]
      simp only [↓dRun, ↓dOp, ↓bO, go_sem, seval, ↓valAV_ty, hcs, hl3, hone, htk, mSome, mSetU, hk, hk2, gM hp, gM hq, Int.natCast_add, hw, hst]
      refine j0 _ ?_
      clear j0 J0
      simp only [go_sem]
      refine aops_chunk 1 fun Q0 q0 => ?_
      simp only [↓bO, go_sem, seval, ↓valAV_ty, hcs, hl3, hone, htk, mSome, mSetU, hk, hk2, gM hp, gM hq, Int.natCast_add, hw, hst]
      refine MCalls.at (ih p (List.mem_of_getElem? hp) q (Ty.matchL (T.ps.take s) (U.ps.take s) m).2) (.cons (Ty.dataAgg p) (.cons (Ty.dataAgg q) .nil)) (.v _) (i := 0) rfl (by first | omega | (simp only; omega)) ?_
      simp only [putO, Nat.reduceEqDiff, ↓reduceIte]
      try simp only [bS, bA, thenQ, blockQ, noGotoQ]
      refine q0 _ ?_
      clear q0 Q0
      simp only [go_sem]
      simp only [↓bO, go_sem, seval, ↓valAV_ty, hcs, hl3, hone, htk, mSome, mSetU, hk, hk2, gM hp, gM hq, Int.natCast_add, hw, hst]
      refine y2 _ ?_
      try clear y2 Y2
      refine AWp_cond rfl (fun hb65 => ?_) (fun hb65 => ?_)
      ·
       refine AWp_seqK fun Y2 y2 => ?_
       refine AWp_region ?_
       simp only [↓bO, go_sem, seval, ↓valAV_ty, hcs, hl3, hone, htk, mSome, mSetU, hk, hk2, gM hp, gM hq, Int.natCast_add, hw, hst]
       refine y2 _ ?_
       try clear y2 Y2
       refine AWp_ret ?_
       try simp only [thenQ, blockQ, noGotoQ, retQ, aRes, tupOf, bS, bA]
       have hg : T.match U m = (false, (p.match q (Ty.matchL (T.ps.take s) (U.ps.take s) m).2).2) := by rw [Ty.match_more hk1 ⟨hkk, hll⟩]; exact Ty.matchL_stop hp hq hll m hs.2 (by simpa using hb65)
       rw [hg]
       refine ⟨_, enumO 0 [.map (mTC ((p.match q (Ty.matchL (T.ps.take s) (U.ps.take s) m).2).2))], ⟨rfl, rfl⟩, .v _ _, mUnd (by omega) _, ?_, ?_, by omega⟩
       ·
        refine Le.of_eq ?_
        rfl
       · first | (refine ⟨2, rfl, rfl⟩)
      ·
       refine AWp_skip ?_
       try simp only [thenQ, blockQ, noGotoQ]
       refine y1 _ ?_
       try clear y1 Y1
       refine AWp_region ?_
       simp only [↓bO, go_sem, seval, ↓valAV_ty, hcs, hl3, hone, htk, mSome, mSetU, hk, hk2, gM hp, gM hq, Int.natCast_add, hw, hst]
       refine ⟨(s + 1), ⟨by omega, by rw [hst]; simpa using hb65⟩, by omega, ?_⟩
       simp only [maskL, setsL, putsO, putO, mB, List.set_cons_zero, List.set_cons_succ, seval, hk, hk2, gM hp, gM hq, Int.natCast_add, Int.natCast_one, hw, hst]
       exact Weak.mk (by simp only [go_sem, Le.refl, Le.any, Le.slNil, Int.natCast_add, Int.cast_ofNat_Int, Int.natCast_one]) (fun _ _ h => h) rfl rfl
     ·
      have hk : s = T.ps.length := by have := hs.1; simp at hb51; omega
      refine AWp_exit ?_
      simp only [thenQ, blockQ, noGotoQ, bA, Nat.reduceEqDiff, ↓reduceIte]
      refine y0 _ ?_
      try clear y0 Y0
      refine AWp_seqK fun Y0 y0 => ?_
      refine AWp_region ?_
      simp only [↓bO, go_sem, seval, ↓valAV_ty, hcs, hl3, hone, htk, mSome, mSetU]
      refine y0 _ ?_
      try clear y0 Y0
      refine AWp_ret ?_
      try simp only [thenQ, blockQ, noGotoQ, retQ, aRes, tupOf, bS, bA]
      have h8 := hs.2
      rw [hk, List.take_length, hll, List.take_length] at h8
      have hg : T.match U m = (true, (Ty.matchL T.ps U.ps m).2) := by rw [Ty.match_more hk1 ⟨hkk, hll⟩]; exact Prod.ext h8 rfl
      rw [hg, hk, List.take_length, hll, List.take_length]
      refine ⟨_, enumO 0 [.map (mTC ((Ty.matchL T.ps U.ps m).2))], ⟨rfl, rfl⟩, .v _ _, mUnd (by omega) _, ?_, ?_, by omega⟩
      ·
       refine Le.of_eq ?_
       rfl
      · first | (refine ⟨2, rfl, rfl⟩)
theorem Bd.take4 (b : Bd) : b.cells.take 4 = b.cells := by rw [b.cells_eq]; rfl
theorem IndexGIn (ps : List Int) (g : Nat) (caps : List AV) (f : Int → Bool) (n0 : Nat) (os : Os) (hI : UndOs n0 os) (hf : ∀ p ∈ ps, ACalls Tryd.prog g (.v (.int .i64 p) :: caps) os n0 fun r os' n => (r = .v (.bool (f p)) ∧ os' = os) ∧ n = n0) : ACalls Tryd.prog 64 [.sl 1 (ps.map intC), .clo g caps] os n0 fun r os' n => (r = .v (.int .i64 (idxI f ps)) ∧ os' = os) ∧ n = n0 := by
  refine ACalls.clean (C := fun r os' => r = _ ∧ os' = os) ?_
  refine ACalls_intro Tryd.func64 (by kernel_rfl) rfl (by rw [Tryd.ntmps64]; simp) (fun hm => ?_)
  simp only [Tryd.ntmps64, Tryd.results64, List.length_cons, List.length_nil, Nat.reduceAdd, Nat.reduceSub, List.replicate_succ, List.replicate_zero, List.cons_append, List.nil_append]
  have hm1 := hm.len (sz := 1) (xs := ps.map intC) (by simp)
  rw [List.length_map] at hm1
  have hm2 : ∀ i : Nat, i < ps.length → IntKind.i64.wrap ((i : Int) + 1) = (i : Int) + 1 := fun i hi => wrap_in (by omega) (by simp only [maxLen] at hm1; omega)
  refine AWp_seqK fun Y0 y0 => ?_
  refine AWp_region ?_
  simp only [↓bO, go_sem, seval]
  refine y0 _ ?_
  try clear y0 Y0
  refine AWp_seqK fun Y0 y0 => ?_
  refine AWp_seqK fun Y1 y1 => ?_
  refine AWp_region ?_
  iterate 2 (refine aops_chunk 1 fun Q0 q0 => ?_; simp only [↓bO, go_sem, seval]; refine q0 _ ?_; clear q0 Q0; simp only [go_sem])
  simp only [↓bO, go_sem, seval]
  refine y1 _ ?_
  try clear y1 Y1
  refine AWp_block ?_
  refine AWp_loopM (σ := Nat) (mB 19 387) (fun s => s ≤ ps.length ∧ ∀ (i : Nat) (p : Int), i < s → ps[i]? = some p → f p = false) (fun s => [(8, .v (.int .i64 (s : Int)))]) (fun s => []) (fun s => ps.length - s) 0 (⟨by omega, fun i p hi => by omega⟩) ?_ (fun s hs => ?_)
  ·
   simp only [maskL, setsL, putsO, putO, mB, List.set_cons_zero, List.set_cons_succ, seval]
   exact Weak.mk (by simp only [go_sem, Le.refl, Le.any, Le.slNil, Int.natCast_add, Int.cast_ofNat_Int, Int.natCast_one]) (fun _ _ h => h) rfl rfl
  simp only [maskL, setsL, putsO, putO, mB, List.set_cons_zero, List.set_cons_succ, seval]
  refine AWp_seqK fun Y1 y1 => ?_
  refine AWp_region ?_
  simp only [↓bO, go_sem, seval]
  refine y1 _ ?_
  try clear y1 Y1
  refine AWp_seqK fun Y1 y1 => ?_
  refine AWp_cond rfl (fun hb9 => ?_) (fun hb9 => ?_)
  ·
   have hk : s < ps.length := by simpa using hb9
   obtain ⟨p, hp⟩ : ∃ p, ps[s]? = some p := ⟨_, List.getElem?_eq_getElem hk⟩
   have hw := hm2 s hk
   refine AWp_skip ?_
   try simp only [thenQ, blockQ, noGotoQ]
   refine y1 _ ?_
   try clear y1 Y1
   refine AWp_seqK fun Y1 y1 => ?_
   refine AWp_block ?_
   refine AWp_seqK fun Y2 y2 => ?_
   refine AWp_region ?_
   refine aops_chunk 1 fun Q0 q0 => ?_
   simp only [↓bO, go_sem, seval, hk, gM hp, Int.natCast_add, hw, intC]
   refine q0 _ ?_
   clear q0 Q0
   simp only [go_sem]
   simp only [↓bO, go_sem, seval, hk, gM hp, Int.natCast_add, hw, intC]
   refine y2 _ ?_
   try clear y2 Y2
   refine AWp_seqK fun Y2 y2 => ?_
   refine AWp_region ?_
   iterate 5 (refine aops_chunk 1 fun Q0 q0 => ?_; simp only [↓bO, go_sem, seval, hk, gM hp, Int.natCast_add, hw, intC]; refine q0 _ ?_; clear q0 Q0; simp only [go_sem])
   simp only [↓bO, go_sem, seval, hk, gM hp, Int.natCast_add, hw, intC]
   refine ACalls.mono (hf p (List.mem_of_getElem? hp)) ?_
   rintro z os2 nx2 ⟨⟨rfl, rfl⟩, rfl⟩
   try simp only [bS, bA, thenQ, blockQ, noGotoQ]
   refine y2 _ ?_
   try clear y2 Y2
   refine AWp_cond rfl (fun hb16 => ?_) (fun hb16 => ?_)
   ·
    refine AWp_seqK fun Y2 y2 => ?_
    refine AWp_region ?_
    refine aops_chunk 1 fun Q0 q0 => ?_
    simp only [↓bO, go_sem, seval, hk, gM hp, Int.natCast_add, hw, intC]
    refine q0 _ ?_
    clear q0 Q0
    simp only [go_sem]
    simp only [↓bO, go_sem, seval, hk, gM hp, Int.natCast_add, hw, intC]
    refine y2 _ ?_
    try clear y2 Y2
    refine AWp_ret ?_
    try simp only [thenQ, blockQ, noGotoQ, retQ, aRes, tupOf, bS, bA]
    refine ⟨_, _, ⟨rfl, rfl⟩, .v _ _, hI, Le.of_eq (congrArg (fun n => AV.v (.int .i64 n)) ?_), ⟨0, rfl, rfl⟩, by omega⟩
    first | (rw [idxI_some hp (by exact hb16) hs.2]; done) | (rw [idxI_none (fun i p hi h1 => hs.2 i p (by omega) h1)]; done)
   ·
    refine AWp_skip ?_
    try simp only [thenQ, blockQ, noGotoQ]
    refine y1 _ ?_
    try clear y1 Y1
    refine AWp_region ?_
    refine aops_chunk 1 fun Q0 q0 => ?_
    simp only [↓bO, go_sem, seval, hk, gM hp, Int.natCast_add, hw, intC]
    refine q0 _ ?_
    clear q0 Q0
    simp only [go_sem]
    simp only [↓bO, go_sem, seval, hk, gM hp, Int.natCast_add, hw, intC]
    refine ⟨(s + 1), ⟨by omega, fun i p' hi h1 => (by rcases Nat.lt_or_ge i s with h3 | h3 <;> first | exact hs.2 i p' h3 h1 | (obtain rfl : i = s := (by omega); rw [hp] at h1; cases h1; exact hb16))⟩, by omega, ?_⟩
    simp only [maskL, setsL, putsO, putO, mB, List.set_cons_zero, List.set_cons_succ, seval, hk, gM hp, Int.natCast_add, Int.natCast_one, hw, intC]
    exact Weak.mk (by simp only [go_sem, Le.refl, Le.any, Le.slNil, Int.natCast_add, Int.cast_ofNat_Int, Int.natCast_one]) (fun _ _ h => h) rfl rfl
  ·
   have hk : s = ps.length := by have := hs.1; simp at hb9; omega
   refine AWp_exit ?_
   simp only [thenQ, blockQ, noGotoQ, bA, Nat.reduceEqDiff, ↓reduceIte]
   refine y0 _ ?_
   try clear y0 Y0
   refine AWp_seqK fun Y0 y0 => ?_
   refine AWp_region ?_
   simp only [↓bO, go_sem, seval]
   refine y0 _ ?_
   try clear y0 Y0
   refine AWp_ret ?_
   try simp only [thenQ, blockQ, noGotoQ, retQ, aRes, tupOf, bS, bA]
   refine ⟨_, _, ⟨rfl, rfl⟩, .v _ _, hI, Le.of_eq (congrArg (fun n => AV.v (.int .i64 n)) ?_), ⟨0, rfl, rfl⟩, by omega⟩
   first | (rw [idxI_some hp (by exact hb16) hs.2]; done) | (rw [idxI_none (fun i p hi h1 => hs.2 i p (by omega) h1)]; done)
theorem ContainsGIn (ps : List Int) (g : Nat) (caps : List AV) (f : Int → Bool) (n0 : Nat) (os : Os) (hI : UndOs n0 os) (hf : ∀ p ∈ ps, ACalls Tryd.prog g (.v (.int .i64 p) :: caps) os n0 fun r os' n => (r = .v (.bool (f p)) ∧ os' = os) ∧ n = n0) : ACalls Tryd.prog 48 [.sl 1 (ps.map intC), .clo g caps] os n0 fun r os' n => (r = .v (.bool (ps.any f)) ∧ os' = os) ∧ n = n0 := by
  refine ACalls.clean (C := fun r os' => r = _ ∧ os' = os) ?_
  refine ACalls_intro Tryd.func48 (by kernel_rfl) rfl (by rw [Tryd.ntmps48]; simp) (fun hm => ?_)
  simp only [Tryd.ntmps48, Tryd.results48, List.length_cons, List.length_nil, Nat.reduceAdd, Nat.reduceSub, List.replicate_succ, List.replicate_zero, List.cons_append, List.nil_append]
  refine AWp_seqK fun Y0 y0 => ?_
  refine AWp_region ?_
  simp only [↓bO, go_sem, seval, idxI_ge]
  refine y0 _ ?_
  try clear y0 Y0
  refine AWp_seqK fun Y0 y0 => ?_
  refine AWp_region ?_
  refine aops_chunk 2 fun Q0 q0 => ?_
  simp only [↓bO, go_sem, seval, idxI_ge]
  refine q0 _ ?_
  clear q0 Q0
  simp only [go_sem]
  refine aops_chunk 1 fun Q0 q0 => ?_
  simp only [↓bO, go_sem, seval, idxI_ge]
  refine ACalls.mono (IndexGIn ps g caps f n0 os hI hf) ?_
  rintro z os2 nx2 ⟨⟨rfl, rfl⟩, rfl⟩
  try simp only [bS, bA, thenQ, blockQ, noGotoQ]
  refine q0 _ ?_
  clear q0 Q0
  simp only [go_sem]
  simp only [↓bO, go_sem, seval, idxI_ge]
  refine y0 _ ?_
  try clear y0 Y0
  refine AWp_ret ?_
  try simp only [thenQ, blockQ, noGotoQ, retQ, aRes, tupOf, bS, bA]
  exact ⟨_, _, ⟨rfl, rfl⟩, .v _ _, hI, Le.refl _, ⟨0, rfl, rfl⟩, by omega⟩
def oC (m : List (Int × Int)) : List (Int × AV) := m.map fun p => (p.1, .v (.int .i64 p.2))
theorem look_o (m : List (Int × Int)) (k : Int) : (aFind (oC m) k).getD (.v (.int .i64 0)) = .v (.int .i64 ((pfind m k).getD 0)) := by
  rw [oC, aFind_p (fun z => .v (.int .i64 z)) k m]; cases pfind m k <;> rfl
theorem upd_o (m : List (Int × Int)) (k x : Int) : aSet (oC m) k (.v (.int .i64 x)) = oC (pset m k x) := aSet_p (fun z => .v (.int .i64 z)) k x m
theorem oC_data (m : List (Int × Int)) : ∀ p ∈ oC m, Data p.2 := fun p hp => by
  obtain ⟨q, _, rfl⟩ := List.mem_map.1 hp
  exact .v _
theorem Und.bds {n : Nat} (l : List Bd) : Und n (.sl 4 (l.map Bd.cells)) = True := eq_true (.data (Bd.dataSl l))
theorem Und.bdsO {n id : Nat} {l : List Bd} (h : id < n) : Und n (.osl id 4 (l.map Bd.cells)) := .osl h (.data (Bd.dataSl l))
theorem Und.oC {n : Nat} (m : List (Int × Int)) : (∀ p ∈ Go.Proofs.YtheacaigeidflaaDoor.oC m, Und n p.2) = True := eq_true fun p hp => .data (oC_data m p hp)
theorem take_map_bd {l : List Bd} {s : Nat} {b : Bd} (hb : l[s]? = some b) : (l.take s).map Bd.cells ++ [b.cells] = (l.take (s + 1)).map Bd.cells := by
  rw [List.take_add_one, hb, List.map_append]; rfl
theorem lookTy9 (m : List (Int × Ty)) (k : Int) : ∃ cs : List AV, (aFind (mTC m) k).getD zT = .agg cs ∧ cs.length = 3 ∧ cs.all AV.one = true ∧ cs.take 3 = cs ∧ (∀ x, pfind m k = some x → cs = x.cells) ∧ DataL cs := by
  cases h : pfind m k with
  | none => exact ⟨[.v (.int .i64 0), .v (.int .i64 0), .v (.slice none 0 0)], by rw [mTC, aFind_p, h]; rfl, rfl, rfl, rfl, (fun x hx => by cases hx), .cons (.v _) (.cons (.v _) (.cons (.v _) .nil))⟩
  | some x => exact ⟨x.cells, mGet h _, x.cells_len, x.cells_one, x.cells_take3, (fun y hy => by cases hy; rfl), Ty.data x⟩
theorem count_pure (l : List Bd) (hn : (l.map Bd.v).Nodup) (hl : l.length ≤ 1048576) : APure Tryd.prog 91 [.sl 4 (l.map Bd.cells)] (.sl 4 (l.map Bd.cells)) := by
  refine APure.mkL (.cons (Bd.dataSl l) .nil) ((Bd.dataSl _)) ?_
  refine ACalls_intro Tryd.func91 (by kernel_rfl) rfl (by rw [Tryd.ntmps91]; simp) (fun hm => ?_)
  simp only [Tryd.ntmps91, Tryd.results91, List.length_cons, List.length_nil, Nat.reduceAdd, Nat.reduceSub, List.replicate_succ, List.replicate_zero, List.cons_append, List.nil_append]
  refine AWp_seqK fun Y0 y0 => ?_
  refine AWp_region ?_
  simp only [↓bO, go_sem, seval, Bd.take1, Bd.drop1, Bd.cells_len, Bd.one, Bd.take4]
  refine y0 _ ?_
  try clear y0 Y0
  refine AWp_seqK fun Y0 y0 => ?_
  refine AWp_region ?_
  refine aops_chunk 1 fun Q0 q0 => ?_
  simp only [↓bO, go_sem, seval, Bd.take1, Bd.drop1, Bd.cells_len, Bd.one, Bd.take4]
  refine q0 _ ?_
  clear q0 Q0
  simp only [go_sem]
  simp only [↓bO, go_sem, seval, Bd.take1, Bd.drop1, Bd.cells_len, Bd.one, Bd.take4]
  refine y0 _ ?_
  try clear y0 Y0
  refine AWp_seqK fun Y0 y0 => ?_
  refine AWp_region ?_
  simp only [↓bO, go_sem, seval, Bd.take1, Bd.drop1, Bd.cells_len, Bd.one, Bd.take4]
  refine y0 _ ?_
  try clear y0 Y0
  refine AWp_seqK fun Y0 y0 => ?_
  refine AWp_seqK fun Y1 y1 => ?_
  refine AWp_region ?_
  iterate 2 (refine aops_chunk 1 fun Q0 q0 => ?_; simp only [↓bO, go_sem, seval, Bd.take1, Bd.drop1, Bd.cells_len, Bd.one, Bd.take4]; refine q0 _ ?_; clear q0 Q0; simp only [go_sem])
  simp only [↓bO, go_sem, seval, Bd.take1, Bd.drop1, Bd.cells_len, Bd.one, Bd.take4]
  refine y1 _ ?_
  try clear y1 Y1
  refine AWp_block ?_
  refine AWp_weak (Weak.tokSlot 4 66 4 rfl) ?_
  simp only [List.set_cons_zero, List.set_cons_succ]
  refine AWp_loopM (σ := Nat) (mB 30 1816) (fun s => s ≤ l.length) (fun s => [(4, .osl 1 4 ((l.take s).map Bd.cells)), (10, .v (.int .i64 (s : Int)))]) (fun s => [(0, .map (oC (onesM (l.take s)))), (1, .tok 66 4 s)]) (fun s => l.length - s) 0 (by omega) ?_ (fun s hs => ?_)
  ·
   simp only [maskL, setsL, putsO, putO, mB, List.set_cons_zero, List.set_cons_succ, seval, bL, onesM, oC]
   exact Weak.mk (by simp only [go_sem, Le.refl, Le.any, Le.slNil, Int.natCast_add, Int.cast_ofNat_Int, Int.natCast_one]) (fun _ _ h => h) rfl rfl
  simp only [maskL, setsL, putsO, putO, mB, List.set_cons_zero, List.set_cons_succ, seval]
  refine AWp_seqK fun Y1 y1 => ?_
  refine AWp_region ?_
  simp only [↓bO, go_sem, seval, Bd.take1, Bd.drop1, Bd.cells_len, Bd.one, Bd.take4]
  refine y1 _ ?_
  try clear y1 Y1
  refine AWp_seqK fun Y1 y1 => ?_
  refine AWp_cond rfl (fun hb11 => ?_) (fun hb11 => ?_)
  ·
   have hk : s < l.length := by simpa using hb11
   obtain ⟨b, hb⟩ : ∃ b, l[s]? = some b := ⟨_, List.getElem?_eq_getElem hk⟩
   have hw : IntKind.i64.wrap ((s : Int) + 1) = (s : Int) + 1 := wrap_in (by omega) (by omega)
   have hnew := onesM_new hn hb
   have hst := onesM_step hn hb
   have hln : ((l.take s).map Bd.cells).length = s := by simp; omega
   have hb1 : (s + 1) * 48 ≤ 140737488355328 := by omega
   have hb2 : s + 1 ≤ maxLen := by simp only [maxLen]; omega
   refine AWp_skip ?_
   try simp only [thenQ, blockQ, noGotoQ]
   refine y1 _ ?_
   try clear y1 Y1
   refine AWp_seqK fun Y1 y1 => ?_
   refine AWp_block ?_
   refine AWp_seqK fun Y2 y2 => ?_
   refine AWp_region ?_
   iterate 3 (refine aops_chunk 1 fun Q0 q0 => ?_; simp only [↓bO, go_sem, seval, Bd.take1, Bd.drop1, Bd.cells_len, Bd.one, Bd.take4, hk, gM hb, Int.natCast_add, hw, hln, hb1, hb2, look_o, hnew, Option.getD_none, Int.zero_add, wrap1, upd_o, hst, take_map_bd hb]; refine q0 _ ?_; clear q0 Q0; simp only [go_sem])
   simp only [↓bO, go_sem, seval, Bd.take1, Bd.drop1, Bd.cells_len, Bd.one, Bd.take4, hk, gM hb, Int.natCast_add, hw, hln, hb1, hb2, look_o, hnew, Option.getD_none, Int.zero_add, wrap1, upd_o, hst, take_map_bd hb]
   refine y2 _ ?_
   try clear y2 Y2
   refine AWp_seqK fun Y2 y2 => ?_
   refine AWp_seqK fun Y3 y3 => ?_
   refine AWp_region ?_
   iterate 4 (refine aops_chunk 1 fun Q0 q0 => ?_; simp only [↓bO, go_sem, seval, Bd.take1, Bd.drop1, Bd.cells_len, Bd.one, Bd.take4, hk, gM hb, Int.natCast_add, hw, hln, hb1, hb2, look_o, hnew, Option.getD_none, Int.zero_add, wrap1, upd_o, hst, take_map_bd hb]; refine q0 _ ?_; clear q0 Q0; simp only [go_sem])
   simp only [↓bO, go_sem, seval, Bd.take1, Bd.drop1, Bd.cells_len, Bd.one, Bd.take4, hk, gM hb, Int.natCast_add, hw, hln, hb1, hb2, look_o, hnew, Option.getD_none, Int.zero_add, wrap1, upd_o, hst, take_map_bd hb]
   refine y3 _ ?_
   try clear y3 Y3
   refine AWp_cond rfl (fun hb18 => ?_) (fun hb18 => ?_)
   ·
    refine AWp_region ?_
    iterate 2 (refine aops_chunk 1 fun Q0 q0 => ?_; simp only [↓bO, go_sem, seval, Bd.take1, Bd.drop1, Bd.cells_len, Bd.one, Bd.take4, hk, gM hb, Int.natCast_add, hw, hln, hb1, hb2, look_o, hnew, Option.getD_none, Int.zero_add, wrap1, upd_o, hst, take_map_bd hb]; refine q0 _ ?_; clear q0 Q0; simp only [go_sem])
    refine aops_chunk 1 fun Q0 q0 => ?_
    simp only [↓bO, go_sem, seval, ↓bs1_1, ↓bs1_2, ↓bs1_3, ↓bs1_4, ↓bs1_5, ↓bs1_6, ↓bs1_7, ↓bs1_8, ↓bs1_9, ↓bs1_10, ↓bs1_11, ↓bs1_12, Bd.take1, Bd.drop1, Bd.cells_len, Bd.one, Bd.take4, hk, gM hb, Int.natCast_add, hw, hln, hb1, hb2, look_o, hnew, Option.getD_none, Int.zero_add, wrap1, upd_o, hst, take_map_bd hb]
    refine q0 _ ?_
    clear q0 Q0
    simp only [go_sem]
    refine aops_chunk 1 fun Q0 q0 => ?_
    simp only [↓bO, go_sem, seval, Bd.take1, Bd.drop1, Bd.cells_len, Bd.one, Bd.take4, hk, gM hb, Int.natCast_add, hw, hln, hb1, hb2, look_o, hnew, Option.getD_none, Int.zero_add, wrap1, upd_o, hst, take_map_bd hb]
    refine q0 _ ?_
    clear q0 Q0
    simp only [go_sem]
    simp only [↓bO, go_sem, seval, Bd.take1, Bd.drop1, Bd.cells_len, Bd.one, Bd.take4, hk, gM hb, Int.natCast_add, hw, hln, hb1, hb2, look_o, hnew, Option.getD_none, Int.zero_add, wrap1, upd_o, hst, take_map_bd hb]
    refine y2 _ ?_
    try clear y2 Y2
    refine AWp_region ?_
    iterate 5 (refine aops_chunk 1 fun Q0 q0 => ?_; simp only [↓bO, go_sem, seval, Bd.take1, Bd.drop1, Bd.cells_len, Bd.one, Bd.take4, hk, gM hb, Int.natCast_add, hw, hln, hb1, hb2, look_o, hnew, Option.getD_none, Int.zero_add, wrap1, upd_o, hst, take_map_bd hb]; refine q0 _ ?_; clear q0 Q0; simp only [go_sem])
    simp only [↓bO, go_sem, seval, Bd.take1, Bd.drop1, Bd.cells_len, Bd.one, Bd.take4, hk, gM hb, Int.natCast_add, hw, hln, hb1, hb2, look_o, hnew, Option.getD_none, Int.zero_add, wrap1, upd_o, hst, take_map_bd hb]
    refine y1 _ ?_
    try clear y1 Y1
    refine AWp_region ?_
    refine aops_chunk 1 fun Q0 q0 => ?_
    simp only [↓bO, go_sem, seval, Bd.take1, Bd.drop1, Bd.cells_len, Bd.one, Bd.take4, hk, gM hb, Int.natCast_add, hw, hln, hb1, hb2, look_o, hnew, Option.getD_none, Int.zero_add, wrap1, upd_o, hst, take_map_bd hb]
    refine q0 _ ?_
    clear q0 Q0
    simp only [go_sem]
    simp only [↓bO, go_sem, seval, Bd.take1, Bd.drop1, Bd.cells_len, Bd.one, Bd.take4, hk, gM hb, Int.natCast_add, hw, hln, hb1, hb2, look_o, hnew, Option.getD_none, Int.zero_add, wrap1, upd_o, hst, take_map_bd hb]
    refine ⟨(s + 1), (by omega), by omega, ?_⟩
    simp only [maskL, setsL, putsO, putO, mB, List.set_cons_zero, List.set_cons_succ, seval, hk, gM hb, Int.natCast_add, Int.natCast_one, hw, hln, hb1, hb2, look_o, hnew, Option.getD_none, Int.zero_add, wrap1, upd_o, hst, take_map_bd hb]
    first | (refine Weak.drops 1 2 rfl rfl (by simp only; omega) (by simp only; omega) ?_ ?_ ?_) | (refine Weak.drops 0 2 rfl rfl (by simp only; omega) (by simp only; omega) ?_ ?_ ?_)
    · simp only [go_sem, Le.refl, Le.any, Int.natCast_add, Int.cast_ofNat_Int, Int.natCast_one]
    · simp only [UndL, UndOs, Ob.Und, and_true, true_and, and_self, Und.v, Und.any, Und.ptr, Und.map, Nat.reduceLT, Nat.zero_lt_succ, Und.tys, Und.tyAgg, Und.oslTys, Und.oslTys1, Und.clo0, Und.ty, Und.bds, Und.bdsO, Und.oC]
    · simp only [UndL, UndOs, Ob.Und, and_true, true_and, and_self, Und.v, Und.any, Und.ptr, Und.map, Nat.reduceLT, Nat.zero_lt_succ, Und.tys, Und.tyAgg, Und.oslTys, Und.oslTys1, Und.clo0, Und.ty, Und.bds, Und.bdsO, Und.oC]
   ·
    exact absurd hb18 (by decide)
  ·
   have hk : s = l.length := by simp at hb11; omega
   refine AWp_exit ?_
   simp only [thenQ, blockQ, noGotoQ, bA, Nat.reduceEqDiff, ↓reduceIte]
   refine y0 _ ?_
   try clear y0 Y0
   refine AWp_seqK fun Y0 y0 => ?_
   refine AWp_region ?_
   refine aops_chunk 1 fun Q0 q0 => ?_
   simp only [↓bO, go_sem, seval, Bd.take1, Bd.drop1, Bd.cells_len, Bd.one, Bd.take4]
   refine q0 _ ?_
   clear q0 Q0
   simp only [go_sem]
   simp only [↓bO, go_sem, seval, Bd.take1, Bd.drop1, Bd.cells_len, Bd.one, Bd.take4]
   refine y0 _ ?_
   try clear y0 Y0
   refine AWp_ret ?_
   try simp only [thenQ, blockQ, noGotoQ, retQ, aRes, tupOf, bS, bA]
   rw [hk, List.take_length]; exact Le.oslL
theorem table_calls (l : List Bd) (hn : (l.map Bd.v).Nodup) (hl : l.length ≤ 1048576) : ACalls Tryd.prog 85 [.sl 4 (l.map Bd.cells)] [] 0 fun r os n => (r = .map 0 ∧ os = [(0, .map (mTC (tabM l)))]) ∧ n = 1 := by
  refine ACalls.cleanN (n := 1) (C := fun r os => r = .map 0 ∧ os = [(0, .map (mTC (tabM l)))]) (by omega) ?_
  refine ACalls_intro Tryd.func85 (by kernel_rfl) rfl (by rw [Tryd.ntmps85]; simp) (fun hm => ?_)
  simp only [Tryd.ntmps85, Tryd.results85, List.length_cons, List.length_nil, Nat.reduceAdd, Nat.reduceSub, List.replicate_succ, List.replicate_zero, List.cons_append, List.nil_append]
  refine AWp_seqK fun Y0 y0 => ?_
  refine AWp_region ?_
  simp only [↓bO, go_sem, seval, Bd.take1, Bd.drop1, Bd.cells_len, Bd.one, Bd.take4]
  refine y0 _ ?_
  try clear y0 Y0
  refine AWp_seqK fun Y0 y0 => ?_
  refine AWp_region ?_
  refine aops_chunk 1 fun Q0 q0 => ?_
  simp only [↓bO, go_sem, seval, Bd.take1, Bd.drop1, Bd.cells_len, Bd.one, Bd.take4]
  refine q0 _ ?_
  clear q0 Q0
  simp only [go_sem]
  simp only [↓bO, go_sem, seval, Bd.take1, Bd.drop1, Bd.cells_len, Bd.one, Bd.take4]
  refine y0 _ ?_
  try clear y0 Y0
  refine AWp_seqK fun Y0 y0 => ?_
  refine AWp_seqK fun Y1 y1 => ?_
  refine AWp_region ?_
  refine aops_chunk 1 fun Q0 q0 => ?_
  simp only [↓bO, go_sem, seval, Bd.take1, Bd.drop1, Bd.cells_len, Bd.one, Bd.take4]
  refine q0 _ ?_
  clear q0 Q0
  simp only [go_sem]
  refine aops_chunk 1 fun Q0 q0 => ?_
  simp only [↓bO, go_sem, seval, Bd.take1, Bd.drop1, Bd.cells_len, Bd.one, Bd.take4]
  refine APure.call (count_pure l hn hl) ?_
  try simp only [bS, bA, thenQ, blockQ, noGotoQ]
  refine q0 _ ?_
  clear q0 Q0
  simp only [go_sem]
  refine aops_chunk 1 fun Q0 q0 => ?_
  simp only [↓bO, go_sem, seval, Bd.take1, Bd.drop1, Bd.cells_len, Bd.one, Bd.take4]
  refine q0 _ ?_
  clear q0 Q0
  simp only [go_sem]
  simp only [↓bO, go_sem, seval, Bd.take1, Bd.drop1, Bd.cells_len, Bd.one, Bd.take4]
  refine y1 _ ?_
  try clear y1 Y1
  refine AWp_block ?_
  refine AWp_loopM (σ := Nat) (mB 21 1800) (fun s => s ≤ l.length) (fun s => [(10, .v (.int .i64 (s : Int)))]) (fun s => [(0, .map (mTC (tabM (l.take s))))]) (fun s => l.length - s) 0 (by omega) ?_ (fun s hs => ?_)
  ·
   simp only [maskL, setsL, putsO, putO, mB, List.set_cons_zero, List.set_cons_succ, seval, bL, tabM, mC_nil]
   exact Weak.mk (by simp only [go_sem, Le.refl, Le.any, Le.slNil, Int.natCast_add, Int.cast_ofNat_Int, Int.natCast_one]) (fun _ _ h => h) rfl rfl
  simp only [maskL, setsL, putsO, putO, mB, List.set_cons_zero, List.set_cons_succ, seval]
  refine AWp_seqK fun Y1 y1 => ?_
  refine AWp_region ?_
  simp only [↓bO, go_sem, seval, Bd.take1, Bd.drop1, Bd.cells_len, Bd.one, Bd.take4]
  refine y1 _ ?_
  try clear y1 Y1
  refine AWp_seqK fun Y1 y1 => ?_
  refine AWp_cond rfl (fun hb11 => ?_) (fun hb11 => ?_)
  ·
   have hk : s < l.length := by simpa using hb11
   obtain ⟨b, hb⟩ : ∃ b, l[s]? = some b := ⟨_, List.getElem?_eq_getElem hk⟩
   have hw : IntKind.i64.wrap ((s : Int) + 1) = (s : Int) + 1 := wrap_in (by omega) (by omega)
   have hst := tabM_step hn hb
   refine AWp_skip ?_
   try simp only [thenQ, blockQ, noGotoQ]
   refine y1 _ ?_
   try clear y1 Y1
   refine AWp_seqK fun Y1 y1 => ?_
   refine AWp_block ?_
   refine AWp_seqK fun Y2 y2 => ?_
   refine AWp_region ?_
   iterate 3 (refine aops_chunk 1 fun Q0 q0 => ?_; simp only [↓bO, go_sem, seval, Bd.take1, Bd.drop1, Bd.cells_len, Bd.one, Bd.take4, hk, gM hb, Int.natCast_add, hw, mSet, hst]; refine q0 _ ?_; clear q0 Q0; simp only [go_sem])
   simp only [↓bO, go_sem, seval, Bd.take1, Bd.drop1, Bd.cells_len, Bd.one, Bd.take4, hk, gM hb, Int.natCast_add, hw, mSet, hst]
   refine y2 _ ?_
   try clear y2 Y2
   refine AWp_region ?_
   iterate 5 (refine aops_chunk 1 fun Q0 q0 => ?_; simp only [↓bO, go_sem, seval, Bd.take1, Bd.drop1, Bd.cells_len, Bd.one, Bd.take4, hk, gM hb, Int.natCast_add, hw, mSet, hst]; refine q0 _ ?_; clear q0 Q0; simp only [go_sem])
   simp only [↓bO, go_sem, seval, Bd.take1, Bd.drop1, Bd.cells_len, Bd.one, Bd.take4, hk, gM hb, Int.natCast_add, hw, mSet, hst]
   refine y1 _ ?_
   try clear y1 Y1
   refine AWp_region ?_
   refine aops_chunk 1 fun Q0 q0 => ?_
   simp only [↓bO, go_sem, seval, Bd.take1, Bd.drop1, Bd.cells_len, Bd.one, Bd.take4, hk, gM hb, Int.natCast_add, hw, mSet, hst]
   refine q0 _ ?_
   clear q0 Q0
   simp only [go_sem]
   simp only [↓bO, go_sem, seval, Bd.take1, Bd.drop1, Bd.cells_len, Bd.one, Bd.take4, hk, gM hb, Int.natCast_add, hw, mSet, hst]
   refine ⟨(s + 1), (by omega), by omega, ?_⟩
   simp only [maskL, setsL, putsO, putO, mB, List.set_cons_zero, List.set_cons_succ, seval, hk, gM hb, Int.natCast_add, Int.natCast_one, hw, mSet, hst]
   first | (refine Weak.drops 1 1 rfl rfl (by simp only; omega) (by simp only; omega) ?_ ?_ ?_) | (refine Weak.drops 0 1 rfl rfl (by simp only; omega) (by simp only; omega) ?_ ?_ ?_)
   · simp only [go_sem, Le.refl, Le.any, Int.natCast_add, Int.cast_ofNat_Int, Int.natCast_one]
   · simp only [UndL, UndOs, Ob.Und, and_true, true_and, and_self, Und.v, Und.any, Und.ptr, Und.map, Nat.reduceLT, Nat.zero_lt_succ, Und.tys, Und.tyAgg, Und.oslTys, Und.oslTys1, Und.clo0, Und.ty, Und.bds, Und.mTC]
   · simp only [UndL, UndOs, Ob.Und, and_true, true_and, and_self, Und.v, Und.any, Und.ptr, Und.map, Nat.reduceLT, Nat.zero_lt_succ, Und.tys, Und.tyAgg, Und.oslTys, Und.oslTys1, Und.clo0, Und.ty, Und.bds, Und.mTC]
  ·
   have hk : s = l.length := by simp at hb11; omega
   refine AWp_exit ?_
   simp only [thenQ, blockQ, noGotoQ, bA, Nat.reduceEqDiff, ↓reduceIte]
   refine y0 _ ?_
   try clear y0 Y0
   refine AWp_seqK fun Y0 y0 => ?_
   refine AWp_region ?_
   refine aops_chunk 1 fun Q0 q0 => ?_
   simp only [↓bO, go_sem, seval, Bd.take1, Bd.drop1, Bd.cells_len, Bd.one, Bd.take4]
   refine q0 _ ?_
   clear q0 Q0
   simp only [go_sem]
   simp only [↓bO, go_sem, seval, Bd.take1, Bd.drop1, Bd.cells_len, Bd.one, Bd.take4]
   refine y0 _ ?_
   try clear y0 Y0
   refine AWp_ret ?_
   try simp only [thenQ, blockQ, noGotoQ, retQ, aRes, tupOf, bS, bA]
   refine ⟨_, [(0, .map (mTC (tabM l)))], ⟨rfl, rfl⟩, .map (by omega), mUnd (by omega) _, Le.refl _, ⟨0, by rw [hk, List.take_length]; rfl, rfl⟩, by omega⟩
theorem table_at {l : List Bd} (hn : (l.map Bd.v).Nodup) (hl : l.length ≤ 1048576) {os' : Os} {nx' : Nat} {Q' : AV → Os → Nat → Prop} (hq : Q' (.map nx') ((nx', .map (mTC (tabM l))) :: os') (nx' + 1)) : ACalls Tryd.prog 85 [.sl 4 (l.map Bd.cells)] os' nx' Q' :=
  ACalls.fresh (R' := .map nx') (os1' := [(nx', .map (mTC (tabM l)))]) (table_calls l hn hl) (.cons (Bd.dataSl l) .nil) (.map rfl) (by simp) ⟨rfl, .map (mC_data _), trivial⟩ hq
theorem apply_calls : ∀ (T : Ty) (m : List (Int × Ty)), (∀ (k : Int) (x : Ty), pfind m k = some x → x.cnt ≤ 1099511627776) → T.cnt ≤ 1099511627776 → MCalls 84 [.map 0, .agg T.cells] m (.agg (T.subM m).cells) m := by
  refine Ty.ind fun T ih m hM hT => ?_
  refine ACalls.clean (C := fun r os => r = _ ∧ os = _) ?_
  refine ACalls_intro Tryd.func84 (by kernel_rfl) rfl (by rw [Tryd.ntmps84]; simp) (fun hm => ?_)
  simp only [Tryd.ntmps84, Tryd.results84, List.length_cons, List.length_nil, Nat.reduceAdd, Nat.reduceSub, List.replicate_succ, List.replicate_zero, List.cons_append, List.nil_append]
  obtain ⟨cs, hcs, hl3, hone, htk, hcx, hcd⟩ := lookTy9 m T.n
  have hm1 := hm.wide (t := T) (by simp)
  have hm2 := hm1.len
  have hcn := T.cnt_eq
  have hcl := Ty.cntL_len T.ps
  simp only [enumO, Nat.reduceAdd]
  simp only [Ty.cells_eq T, List.cons_append, List.nil_append]
  refine AWp_seqK fun Y0 y0 => ?_
  refine AWp_region ?_
  refine aops_chunk 1 fun Q0 q0 => ?_
  simp only [↓bO, go_sem, seval, ↓valAV_ty, hcs, hl3, hone, htk, mSome]
  refine q0 _ ?_
  clear q0 Q0
  simp only [go_sem]
  simp only [↓bO, go_sem, seval, ↓valAV_ty, hcs, hl3, hone, htk, mSome]
  refine y0 _ ?_
  try clear y0 Y0
  refine AWp_seqK fun Y0 y0 => ?_
  refine AWp_seqK fun Y1 y1 => ?_
  refine AWp_region ?_
  iterate 9 (refine aops_chunk 1 fun Q0 q0 => ?_; simp only [↓bO, go_sem, seval, ↓valAV_ty, hcs, hl3, hone, htk, mSome]; refine q0 _ ?_; clear q0 Q0; simp only [go_sem])
  simp only [↓bO, go_sem, seval, ↓valAV_ty, hcs, hl3, hone, htk, mSome]
  refine y1 _ ?_
  try clear y1 Y1
  refine AWp_seqK fun Y1 y1 => ?_
  refine AWp_region ?_
  iterate 2 (refine aops_chunk 1 fun Q0 q0 => ?_; simp only [↓bO, go_sem, seval, ↓valAV_ty, hcs, hl3, hone, htk, mSome]; refine q0 _ ?_; clear q0 Q0; simp only [go_sem])
  refine aops_case 18 rfl (fun hc18 => ?_) (fun hc18 => ?_)
  ·
   simp only [List.set_cons_zero, List.set_cons_succ]
   have hS : (pfind m T.n).isSome = true := by simpa using hc18
   obtain ⟨x, hfx⟩ := Option.isSome_iff_exists.1 hS
   have hce := hcx x hfx
   subst hce
   have hxc := hM _ _ hfx
   iterate 3 (refine aops_chunk 1 fun Q0 q0 => ?_; simp only [↓bO, go_sem, seval, ↓valAV_ty, hcs, hl3, hone, htk, mSome]; refine q0 _ ?_; clear q0 Q0; simp only [go_sem])
   simp only [↓bO, go_sem, seval, ↓valAV_ty, hcs, hl3, hone, htk, mSome]
   refine y1 _ ?_
   try clear y1 Y1
   refine AWp_cond rfl (fun hb22 => ?_) (fun hb22 => ?_)
   ·
    have hk1 : T.k = 1 := by simpa using hb22
    refine AWp_seqK fun Y1 y1 => ?_
    refine AWp_region ?_
    refine aops_chunk 1 fun Q0 q0 => ?_
    simp only [↓bO, go_sem, seval, ↓valAV_ty, hcs, hl3, hone, htk, mSome]
    refine q0 _ ?_
    clear q0 Q0
    simp only [go_sem]
    refine aops_chunk 1 fun Q0 q0 => ?_
    simp only [↓bO, go_sem, seval, ↓valAV_ty, hcs, hl3, hone, htk, mSome]
    refine APure.call (Copy_pure x hxc) ?_
    try simp only [bS, bA, thenQ, blockQ, noGotoQ]
    refine q0 _ ?_
    clear q0 Q0
    simp only [go_sem]
    simp only [↓bO, go_sem, seval, ↓valAV_ty, hcs, hl3, hone, htk, mSome]
    refine y1 _ ?_
    try clear y1 Y1
    refine AWp_ret ?_
    try simp only [thenQ, blockQ, noGotoQ, retQ, aRes, tupOf, bS, bA, aLoad, getO, pack, bL, Nat.reduceAdd, Nat.reduceLeDiff, Nat.reduceEqDiff, ↓reduceIte, ti25, tyX, ↓valAV_ty, hcs, hl3, hone, htk, mSome]
    refine ⟨_, enumO 0 [.map (mTC m)], ⟨rfl, rfl⟩, .data (Ty.dataAgg _), mUnd (by omega) _, ?_, ?_, by omega⟩
    · rw [Ty.subM_yes hk1 hfx]; exact Le.refl _
    · exact ⟨3, rfl, rfl⟩
   ·
    have hno : ¬ (T.k = 1 ∧ (pfind m T.n).isSome = true) := fun h9 => by (have h8 := hb22; simp at h8; exact h8 h9.1)
    refine AWp_skip ?_
    try simp only [thenQ, blockQ, noGotoQ]
    refine y0 _ ?_
    try clear y0 Y0
    refine AWp_seqK fun Y0 y0 => ?_
    refine AWp_region ?_
    simp only [↓bO, go_sem, seval, ↓valAV_ty, hcs, hl3, hone, htk, mSome]
    refine y0 _ ?_
    try clear y0 Y0
    refine AWp_seqK fun Y0 y0 => ?_
    refine AWp_seqK fun Y1 y1 => ?_
    refine AWp_region ?_
    iterate 3 (refine aops_chunk 1 fun Q0 q0 => ?_; simp only [↓bO, go_sem, seval, ↓valAV_ty, hcs, hl3, hone, htk, mSome]; refine q0 _ ?_; clear q0 Q0; simp only [go_sem])
    simp only [↓bO, go_sem, seval, ↓valAV_ty, hcs, hl3, hone, htk, mSome]
    refine y1 _ ?_
    try clear y1 Y1
    refine AWp_block ?_
    refine AWp_weak (Weak.tokSlot 7 25 3 rfl) ?_
    simp only [List.set_cons_zero, List.set_cons_succ]
    refine AWp_loopM (σ := Nat) (mB 42 469762201) (fun s => s ≤ T.ps.length) (fun s => [(7, .osl 4 3 (((T.ps.take s).map (Ty.subM m)).map Ty.cells)), (28, .v (.int .i64 (s : Int)))]) (fun s => [(4, .tok 25 3 s)]) (fun s => T.ps.length - s) 0 (by omega) ?_ (fun s hs => ?_)
    ·
     simp only [maskL, setsL, putsO, putO, mB, List.set_cons_zero, List.set_cons_succ, seval, bL]
     exact Weak.mk (by simp only [go_sem, Le.refl, Le.any, Le.slNil, Int.natCast_add, Int.cast_ofNat_Int, Int.natCast_one]) (fun _ _ h => h) rfl rfl
    simp only [maskL, setsL, putsO, putO, mB, List.set_cons_zero, List.set_cons_succ, seval]
    refine AWp_seqK fun Y1 y1 => ?_
    refine AWp_region ?_
    simp only [↓bO, go_sem, seval, ↓valAV_ty, hcs, hl3, hone, htk, mSome]
    refine y1 _ ?_
    try clear y1 Y1
    refine AWp_seqK fun Y1 y1 => ?_
    refine AWp_cond rfl (fun hb29 => ?_) (fun hb29 => ?_)
    ·
     have hk : s < T.ps.length := by simpa using hb29
     obtain ⟨p, hp⟩ : ∃ p, T.ps[s]? = some p := ⟨_, List.getElem?_eq_getElem hk⟩
     have hpm := Ty.cnt_mem (List.mem_of_getElem? hp)
     have hw : IntKind.i64.wrap ((s : Int) + 1) = (s : Int) + 1 := wrap_in (by omega) (by omega)
     have hln : ((T.ps.take s).map (Ty.subM m)).length = s := by simp; omega
     have hb1 : (s + 1) * 40 ≤ 140737488355328 := by omega
     have hb2 : s + 1 ≤ maxLen := by simp only [maxLen]; omega
     refine AWp_skip ?_
     try simp only [thenQ, blockQ, noGotoQ]
     refine y1 _ ?_
     try clear y1 Y1
     refine AWp_seqK fun Y1 y1 => ?_
     refine AWp_block ?_
     refine AWp_seqK fun Y2 y2 => ?_
     refine AWp_region ?_
     iterate 3 (refine aops_chunk 1 fun Q0 q0 => ?_; simp only [↓bO, go_sem, seval, ↓valAV_ty, hcs, hl3, hone, htk, mSome, hk, gM hp, Int.natCast_add, hw, hln, hb1, hb2, List.map_append, take_map_step (Ty.subM m) hp]; refine q0 _ ?_; clear q0 Q0; simp only [go_sem])
     simp only [↓bO, go_sem, seval, ↓valAV_ty, hcs, hl3, hone, htk, mSome, hk, gM hp, Int.natCast_add, hw, hln, hb1, hb2, List.map_append, take_map_step (Ty.subM m) hp]
     refine y2 _ ?_
     try clear y2 Y2
     refine AWp_region ?_
     iterate 3 (refine aops_chunk 1 fun Q0 q0 => ?_; simp only [↓bO, go_sem, seval, ↓valAV_ty, hcs, hl3, hone, htk, mSome, hk, gM hp, Int.natCast_add, hw, hln, hb1, hb2, List.map_append, take_map_step (Ty.subM m) hp]; refine q0 _ ?_; clear q0 Q0; simp only [go_sem])
     refine aops_chunk 1 fun Q0 q0 => ?_
     simp only [↓bO, go_sem, seval, ↓valAV_ty, hcs, hl3, hone, htk, mSome, hk, gM hp, Int.natCast_add, hw, hln, hb1, hb2, List.map_append, take_map_step (Ty.subM m) hp]
     refine MCalls.at (ih p (List.mem_of_getElem? hp) m hM (by omega)) (.cons (Ty.dataAgg p) .nil) (Ty.dataAgg _) (i := 0) rfl (by first | omega | (simp only; omega)) ?_
     simp only [putO, Nat.reduceEqDiff, ↓reduceIte]
     try simp only [bS, bA, thenQ, blockQ, noGotoQ]
     refine q0 _ ?_
     clear q0 Q0
     simp only [go_sem]
     refine aops_chunk 1 fun Q0 q0 => ?_
     simp only [↓bO, go_sem, seval, ↓bs1_1, ↓bs1_2, ↓bs1_3, ↓bs1_4, ↓bs1_5, ↓bs1_6, ↓bs1_7, ↓bs1_8, ↓bs1_9, ↓bs1_10, ↓bs1_11, ↓bs1_12, ↓valAV_ty, hcs, hl3, hone, htk, mSome, hk, gM hp, Int.natCast_add, hw, hln, hb1, hb2, List.map_append, take_map_step (Ty.subM m) hp]
     refine q0 _ ?_
     clear q0 Q0
     simp only [go_sem]
     refine aops_chunk 1 fun Q0 q0 => ?_
     simp only [↓bO, go_sem, seval, ↓valAV_ty, hcs, hl3, hone, htk, mSome, hk, gM hp, Int.natCast_add, hw, hln, hb1, hb2, List.map_append, take_map_step (Ty.subM m) hp]
     refine q0 _ ?_
     clear q0 Q0
     simp only [go_sem]
     simp only [↓bO, go_sem, seval, ↓valAV_ty, hcs, hl3, hone, htk, mSome, hk, gM hp, Int.natCast_add, hw, hln, hb1, hb2, List.map_append, take_map_step (Ty.subM m) hp]
     refine y1 _ ?_
     try clear y1 Y1
     refine AWp_region ?_
     refine aops_chunk 1 fun Q0 q0 => ?_
     simp only [↓bO, go_sem, seval, ↓valAV_ty, hcs, hl3, hone, htk, mSome, hk, gM hp, Int.natCast_add, hw, hln, hb1, hb2, List.map_append, take_map_step (Ty.subM m) hp]
     refine q0 _ ?_
     clear q0 Q0
     simp only [go_sem]
     simp only [↓bO, go_sem, seval, ↓valAV_ty, hcs, hl3, hone, htk, mSome, hk, gM hp, Int.natCast_add, hw, hln, hb1, hb2, List.map_append, take_map_step (Ty.subM m) hp]
     refine ⟨(s + 1), (by omega), by omega, ?_⟩
     simp only [maskL, setsL, putsO, putO, mB, List.set_cons_zero, List.set_cons_succ, seval, hk, gM hp, Int.natCast_add, Int.natCast_one, hw, hln, hb1, hb2, List.length_map, List.map_append, bL, take_map_step (Ty.subM m) hp]
     first | (refine Weak.drops 1 5 rfl rfl (by simp only; omega) (by simp only; omega) ?_ ?_ ?_) | (refine Weak.drops 0 5 rfl rfl (by simp only; omega) (by simp only; omega) ?_ ?_ ?_)
     · simp only [go_sem, Le.refl, Le.any, Int.natCast_add, Int.cast_ofNat_Int, Int.natCast_one]
     · simp only [UndL, UndOs, Ob.Und, and_true, true_and, and_self, Und.v, Und.any, Und.ptr, Und.map, Nat.reduceLT, Nat.zero_lt_succ, Und.tys, Und.tyAgg, Und.oslTys, Und.oslTys1, Und.clo0, Und.ty, Und.mTC, Und.map, Und.oslTys, UndL.data hcd]
     · simp only [UndL, UndOs, Ob.Und, and_true, true_and, and_self, Und.v, Und.any, Und.ptr, Und.map, Nat.reduceLT, Nat.zero_lt_succ, Und.tys, Und.tyAgg, Und.oslTys, Und.oslTys1, Und.clo0, Und.ty, Und.mTC, Und.map, Und.oslTys, UndL.data hcd]
    ·
     have hk : s = T.ps.length := by simp at hb29; omega
     refine AWp_exit ?_
     simp only [thenQ, blockQ, noGotoQ, bA, Nat.reduceEqDiff, ↓reduceIte]
     refine y0 _ ?_
     try clear y0 Y0
     refine AWp_seqK fun Y0 y0 => ?_
     refine AWp_region ?_
     iterate 2 (refine aops_chunk 1 fun Q0 q0 => ?_; simp only [↓bO, go_sem, seval, ↓valAV_ty, hcs, hl3, hone, htk, mSome]; refine q0 _ ?_; clear q0 Q0; simp only [go_sem])
     simp only [↓bO, go_sem, seval, ↓valAV_ty, hcs, hl3, hone, htk, mSome]
     refine y0 _ ?_
     try clear y0 Y0
     refine AWp_seqK fun Y0 y0 => ?_
     refine AWp_region ?_
     refine aops_chunk 1 fun Q0 q0 => ?_
     simp only [↓bO, go_sem, seval, ↓valAV_ty, hcs, hl3, hone, htk, mSome]
     refine q0 _ ?_
     clear q0 Q0
     simp only [go_sem]
     simp only [↓bO, go_sem, seval, ↓valAV_ty, hcs, hl3, hone, htk, mSome]
     refine y0 _ ?_
     try clear y0 Y0
     refine AWp_ret ?_
     try simp only [thenQ, blockQ, noGotoQ, retQ, aRes, tupOf, bS, bA, aLoad, getO, pack, bL, Nat.reduceAdd, Nat.reduceLeDiff, Nat.reduceEqDiff, ↓reduceIte, ti25, tyX, ↓valAV_ty, hcs, hl3, hone, htk, mSome]
     refine ⟨.agg (T.subM m).cells, enumO 0 [.map (mTC m)], ⟨rfl, rfl⟩, .data (Ty.dataAgg _), mUnd (by omega) _, ?_, ?_, by omega⟩
     ·
      refine Le.agg ?_
      rw [Ty.subM_no hno, Ty.cells_eq, hk, List.take_length]
      exact ⟨.refl _, .refl _, Le.oslL, trivial⟩
     · first | exact ⟨4, rfl, rfl⟩ | exact ⟨5, rfl, rfl⟩
  ·
   simp only [List.set_cons_zero, List.set_cons_succ]
   have hS : (pfind m T.n).isSome = false := by simpa using hc18
   have hno : ¬ (T.k = 1 ∧ (pfind m T.n).isSome = true) := fun h9 => by rw [hS] at h9; cases h9.2
   iterate 3 (refine aops_chunk 1 fun Q0 q0 => ?_; simp only [↓bO, go_sem, seval, ↓valAV_ty, hcs, hl3, hone, htk, mSome]; refine q0 _ ?_; clear q0 Q0; simp only [go_sem])
   simp only [↓bO, go_sem, seval, ↓valAV_ty, hcs, hl3, hone, htk, mSome]
   refine y1 _ ?_
   try clear y1 Y1
   refine AWp_cond (b := false) (by first | exact rfl | exact congrArg (fun b => AV.v (.bool b)) hb22) (fun h => (by cases h)) (fun _ => ?_)
   refine AWp_skip ?_
   try simp only [thenQ, blockQ, noGotoQ]
   refine y0 _ ?_
   try clear y0 Y0
   refine AWp_seqK fun Y0 y0 => ?_
   refine AWp_region ?_
   simp only [↓bO, go_sem, seval, ↓valAV_ty, hcs, hl3, hone, htk, mSome]
   refine y0 _ ?_
   try clear y0 Y0
   refine AWp_seqK fun Y0 y0 => ?_
   refine AWp_seqK fun Y1 y1 => ?_
   refine AWp_region ?_
   iterate 3 (refine aops_chunk 1 fun Q0 q0 => ?_; simp only [↓bO, go_sem, seval, ↓valAV_ty, hcs, hl3, hone, htk, mSome]; refine q0 _ ?_; clear q0 Q0; simp only [go_sem])
   simp only [↓bO, go_sem, seval, ↓valAV_ty, hcs, hl3, hone, htk, mSome]
   refine y1 _ ?_
   try clear y1 Y1
   refine AWp_block ?_
   refine AWp_weak (Weak.tokSlot 7 25 3 rfl) ?_
   simp only [List.set_cons_zero, List.set_cons_succ]
   refine AWp_loopM (σ := Nat) (mB 42 469762201) (fun s => s ≤ T.ps.length) (fun s => [(7, .osl 4 3 (((T.ps.take s).map (Ty.subM m)).map Ty.cells)), (28, .v (.int .i64 (s : Int)))]) (fun s => [(4, .tok 25 3 s)]) (fun s => T.ps.length - s) 0 (by omega) ?_ (fun s hs => ?_)
   ·
    simp only [maskL, setsL, putsO, putO, mB, List.set_cons_zero, List.set_cons_succ, seval, bL]
    exact Weak.mk (by simp only [go_sem, Le.refl, Le.any, Le.slNil, Int.natCast_add, Int.cast_ofNat_Int, Int.natCast_one]) (fun _ _ h => h) rfl rfl
   simp only [maskL, setsL, putsO, putO, mB, List.set_cons_zero, List.set_cons_succ, seval]
   refine AWp_seqK fun Y1 y1 => ?_
   refine AWp_region ?_
   simp only [↓bO, go_sem, seval, ↓valAV_ty, hcs, hl3, hone, htk, mSome]
   refine y1 _ ?_
   try clear y1 Y1
   refine AWp_seqK fun Y1 y1 => ?_
   refine AWp_cond rfl (fun hb29 => ?_) (fun hb29 => ?_)
   ·
    have hk : s < T.ps.length := by simpa using hb29
    obtain ⟨p, hp⟩ : ∃ p, T.ps[s]? = some p := ⟨_, List.getElem?_eq_getElem hk⟩
    have hpm := Ty.cnt_mem (List.mem_of_getElem? hp)
    have hw : IntKind.i64.wrap ((s : Int) + 1) = (s : Int) + 1 := wrap_in (by omega) (by omega)
    have hln : ((T.ps.take s).map (Ty.subM m)).length = s := by simp; omega
    have hb1 : (s + 1) * 40 ≤ 140737488355328 := by omega
    have hb2 : s + 1 ≤ maxLen := by simp only [maxLen]; omega
    refine AWp_skip ?_
    try simp only [thenQ, blockQ, noGotoQ]
    refine y1 _ ?_
    try clear y1 Y1
    refine AWp_seqK fun Y1 y1 => ?_
    refine AWp_block ?_
    refine AWp_seqK fun Y2 y2 => ?_
    refine AWp_region ?_
    iterate 3 (refine aops_chunk 1 fun Q0 q0 => ?_; simp only [↓bO, go_sem, seval, ↓valAV_ty, hcs, hl3, hone, htk, mSome, hk, gM hp, Int.natCast_add, hw, hln, hb1, hb2, List.map_append, take_map_step (Ty.subM m) hp]; refine q0 _ ?_; clear q0 Q0; simp only [go_sem])
    simp only [↓bO, go_sem, seval, ↓valAV_ty, hcs, hl3, hone, htk, mSome, hk, gM hp, Int.natCast_add, hw, hln, hb1, hb2, List.map_append, take_map_step (Ty.subM m) hp]
    refine y2 _ ?_
    try clear y2 Y2
    refine AWp_region ?_
    iterate 3 (refine aops_chunk 1 fun Q0 q0 => ?_; simp only [↓bO, go_sem, seval, ↓valAV_ty, hcs, hl3, hone, htk, mSome, hk, gM hp, Int.natCast_add, hw, hln, hb1, hb2, List.map_append, take_map_step (Ty.subM m) hp]; refine q0 _ ?_; clear q0 Q0; simp only [go_sem])
    refine aops_chunk 1 fun Q0 q0 => ?_
    simp only [↓bO, go_sem, seval, ↓valAV_ty, hcs, hl3, hone, htk, mSome, hk, gM hp, Int.natCast_add, hw, hln, hb1, hb2, List.map_append, take_map_step (Ty.subM m) hp]
    refine MCalls.at (ih p (List.mem_of_getElem? hp) m hM (by omega)) (.cons (Ty.dataAgg p) .nil) (Ty.dataAgg _) (i := 0) rfl (by first | omega | (simp only; omega)) ?_
    simp only [putO, Nat.reduceEqDiff, ↓reduceIte]
    try simp only [bS, bA, thenQ, blockQ, noGotoQ]
    refine q0 _ ?_
    clear q0 Q0
    simp only [go_sem]
    refine aops_chunk 1 fun Q0 q0 => ?_
    simp only [↓bO, go_sem, seval, ↓bs1_1, ↓bs1_2, ↓bs1_3, ↓bs1_4, ↓bs1_5, ↓bs1_6, ↓bs1_7, ↓bs1_8, ↓bs1_9, ↓bs1_10, ↓bs1_11, ↓bs1_12, ↓valAV_ty, hcs, hl3, hone, htk, mSome, hk, gM hp, Int.natCast_add, hw, hln, hb1, hb2, List.map_append, take_map_step (Ty.subM m) hp]
    refine q0 _ ?_
    clear q0 Q0
    simp only [go_sem]
    refine aops_chunk 1 fun Q0 q0 => ?_
    simp only [↓bO, go_sem, seval, ↓valAV_ty, hcs, hl3, hone, htk, mSome, hk, gM hp, Int.natCast_add, hw, hln, hb1, hb2, List.map_append, take_map_step (Ty.subM m) hp]
    refine q0 _ ?_
    clear q0 Q0
    simp only [go_sem]
    simp only [↓bO, go_sem, seval, ↓valAV_ty, hcs, hl3, hone, htk, mSome, hk, gM hp, Int.natCast_add, hw, hln, hb1, hb2, List.map_append, take_map_step (Ty.subM m) hp]
    refine y1 _ ?_
    try clear y1 Y1
    refine AWp_region ?_
    refine aops_chunk 1 fun Q0 q0 => ?_
    simp only [↓bO, go_sem, seval, ↓valAV_ty, hcs, hl3, hone, htk, mSome, hk, gM hp, Int.natCast_add, hw, hln, hb1, hb2, List.map_append, take_map_step (Ty.subM m) hp]
    refine q0 _ ?_
    clear q0 Q0
    simp only [go_sem]
    simp only [↓bO, go_sem, seval, ↓valAV_ty, hcs, hl3, hone, htk, mSome, hk, gM hp, Int.natCast_add, hw, hln, hb1, hb2, List.map_append, take_map_step (Ty.subM m) hp]
    refine ⟨(s + 1), (by omega), by omega, ?_⟩
    simp only [maskL, setsL, putsO, putO, mB, List.set_cons_zero, List.set_cons_succ, seval, hk, gM hp, Int.natCast_add, Int.natCast_one, hw, hln, hb1, hb2, List.length_map, List.map_append, bL, take_map_step (Ty.subM m) hp]
    first | (refine Weak.drops 1 5 rfl rfl (by simp only; omega) (by simp only; omega) ?_ ?_ ?_) | (refine Weak.drops 0 5 rfl rfl (by simp only; omega) (by simp only; omega) ?_ ?_ ?_)
    · simp only [go_sem, Le.refl, Le.any, Int.natCast_add, Int.cast_ofNat_Int, Int.natCast_one]
    · simp only [UndL, UndOs, Ob.Und, and_true, true_and, and_self, Und.v, Und.any, Und.ptr, Und.map, Nat.reduceLT, Nat.zero_lt_succ, Und.tys, Und.tyAgg, Und.oslTys, Und.oslTys1, Und.clo0, Und.ty, Und.mTC, Und.map, Und.oslTys, UndL.data hcd]
    · simp only [UndL, UndOs, Ob.Und, and_true, true_and, and_self, Und.v, Und.any, Und.ptr, Und.map, Nat.reduceLT, Nat.zero_lt_succ, Und.tys, Und.tyAgg, Und.oslTys, Und.oslTys1, Und.clo0, Und.ty, Und.mTC, Und.map, Und.oslTys, UndL.data hcd]
   ·
    have hk : s = T.ps.length := by simp at hb29; omega
    refine AWp_exit ?_
    simp only [thenQ, blockQ, noGotoQ, bA, Nat.reduceEqDiff, ↓reduceIte]
    refine y0 _ ?_
    try clear y0 Y0
    refine AWp_seqK fun Y0 y0 => ?_
    refine AWp_region ?_
    iterate 2 (refine aops_chunk 1 fun Q0 q0 => ?_; simp only [↓bO, go_sem, seval, ↓valAV_ty, hcs, hl3, hone, htk, mSome]; refine q0 _ ?_; clear q0 Q0; simp only [go_sem])
    simp only [↓bO, go_sem, seval, ↓valAV_ty, hcs, hl3, hone, htk, mSome]
    refine y0 _ ?_
    try clear y0 Y0
    refine AWp_seqK fun Y0 y0 => ?_
    refine AWp_region ?_
    refine aops_chunk 1 fun Q0 q0 => ?_
    simp only [↓bO, go_sem, seval, ↓valAV_ty, hcs, hl3, hone, htk, mSome]
    refine q0 _ ?_
    clear q0 Q0
    simp only [go_sem]
    simp only [↓bO, go_sem, seval, ↓valAV_ty, hcs, hl3, hone, htk, mSome]
    refine y0 _ ?_
    try clear y0 Y0
    refine AWp_ret ?_
    try simp only [thenQ, blockQ, noGotoQ, retQ, aRes, tupOf, bS, bA, aLoad, getO, pack, bL, Nat.reduceAdd, Nat.reduceLeDiff, Nat.reduceEqDiff, ↓reduceIte, ti25, tyX, ↓valAV_ty, hcs, hl3, hone, htk, mSome]
    refine ⟨.agg (T.subM m).cells, enumO 0 [.map (mTC m)], ⟨rfl, rfl⟩, .data (Ty.dataAgg _), mUnd (by omega) _, ?_, ?_, by omega⟩
    ·
     refine Le.agg ?_
     rw [Ty.subM_no hno, Ty.cells_eq, hk, List.take_length]
     exact ⟨.refl _, .refl _, Le.oslL, trivial⟩
    · first | exact ⟨4, rfl, rfl⟩ | exact ⟨5, rfl, rfl⟩
def mRes (g t : Ty) : List Bd × Int := if g.right && t.right then if (g.match t []).1 then (haveB g (g.match t []).2, 0) else ([], 7) else ([], 1)
theorem mRes_arg {g t : Ty} (h : (g.right && t.right) = false) : mRes g t = ([], 1) := by rw [mRes, if_neg (by rw [h]; simp)]
theorem mRes_clash {g t : Ty} (h1 : (g.right && t.right) = true) (h2 : (g.match t []).1 = false) : mRes g t = ([], 7) := by rw [mRes, if_pos h1, if_neg (by rw [h2]; simp)]
theorem mRes_ok {g t : Ty} (h1 : (g.right && t.right) = true) (h2 : (g.match t []).1 = true) : mRes g t = (haveB g (g.match t []).2, 0) := by rw [mRes, if_pos h1, if_pos h2]
def hB (m : List (Int × Ty)) (v : Int) : Bd := ⟨v, (pfind m v).getD (.mk 0 0 [])⟩
theorem hB_cells {m : List (Int × Ty)} {v : Int} {x : Ty} (h : pfind m v = some x) : (hB m v).cells = .v (.int .i64 v) :: x.cells := by rw [hB, h]; rfl
theorem haveB_eq (g : Ty) (m : List (Int × Ty)) : haveB g m = (g.rvars []).map (hB m) := rfl
theorem notAnyRight : ∀ ps : List Ty, (!ps.any fun p => !p.right) = ps.all Ty.right
  | [] => rfl
  | p :: ps => by rw [List.any_cons, List.all_cons, Bool.not_or, Bool.not_not, notAnyRight ps]
theorem RightA_pure (p : Ty) : APure Tryd.prog 83 [.agg p.cells] (.v (.bool (!p.right))) := by
  refine APure.mkL (.cons p.dataAgg .nil) (.v _) ?_
  refine ACalls_intro Tryd.func83 (by kernel_rfl) rfl (by rw [Tryd.ntmps83]; simp) (fun hm => ?_)
  simp only [Tryd.ntmps83, Tryd.results83, List.length_cons, List.length_nil, Nat.reduceAdd, Nat.reduceSub, List.replicate_succ, List.replicate_zero, List.cons_append, List.nil_append]
  simp only [Ty.cells_eq p, List.cons_append, List.nil_append]
  refine AWp_seqK fun Y0 y0 => ?_
  refine AWp_region ?_
  simp only [↓bO, go_sem, seval]
  refine y0 _ ?_
  try clear y0 Y0
  refine AWp_seqK fun Y0 y0 => ?_
  refine AWp_region ?_
  refine aops_chunk 1 fun Q0 q0 => ?_
  simp only [↓bO, go_sem, seval]
  refine q0 _ ?_
  clear q0 Q0
  simp only [go_sem]
  refine aops_chunk 1 fun Q0 q0 => ?_
  simp only [↓bO, go_sem, seval]
  refine APure.call (by have h9 := Right_pure p; rw [Ty.cells_eq p] at h9; exact h9) ?_
  try simp only [bS, bA, thenQ, blockQ, noGotoQ]
  refine q0 _ ?_
  clear q0 Q0
  simp only [go_sem]
  simp only [↓bO, go_sem, seval]
  refine y0 _ ?_
  try clear y0 Y0
  refine AWp_ret ?_
  try simp only [thenQ, blockQ, noGotoQ, retQ, aRes, tupOf, bS, bA]
  exact Le.refl _
theorem RightL_pure (ps : List Ty) : APure Tryd.prog 69 [.sl 3 (ps.map Ty.cells)] (.v (.bool (ps.all Ty.right))) := by
  refine APure.mkL (.cons (Ty.dataSl ps) .nil) (.v _) ?_
  refine ACalls_intro Tryd.func69 (by kernel_rfl) rfl (by rw [Tryd.ntmps69]; simp) (fun hm => ?_)
  simp only [Tryd.ntmps69, Tryd.results69, List.length_cons, List.length_nil, Nat.reduceAdd, Nat.reduceSub, List.replicate_succ, List.replicate_zero, List.cons_append, List.nil_append]
  refine AWp_seqK fun Y0 y0 => ?_
  refine AWp_region ?_
  simp only [↓bO, go_sem, seval]
  refine y0 _ ?_
  try clear y0 Y0
  refine AWp_seqK fun Y0 y0 => ?_
  refine AWp_region ?_
  refine aops_chunk 1 fun Q0 q0 => ?_
  simp only [↓bO, go_sem, seval]
  refine q0 _ ?_
  clear q0 Q0
  simp only [go_sem]
  refine aops_chunk 1 fun Q0 q0 => ?_
  simp only [↓bO, go_sem, seval]
  refine APure.call (ContainsFuncTy_pure ps 83 (fun p => !p.right) fun p _ => RightA_pure p) ?_
  try simp only [bS, bA, thenQ, blockQ, noGotoQ]
  refine q0 _ ?_
  clear q0 Q0
  simp only [go_sem]
  simp only [↓bO, go_sem, seval]
  refine y0 _ ?_
  try clear y0 Y0
  refine AWp_ret ?_
  try simp only [thenQ, blockQ, noGotoQ, retQ, aRes, tupOf, bS, bA]
  exact Le.of_eq (congrArg (fun b => AV.v (.bool b)) (notAnyRight ps))
theorem Match_pure (T U : Ty) (hT : T.cnt ≤ 1099511627776) (hU : U.cnt ≤ 1099511627776) : APure Tryd.prog 45 [.agg T.cells, .agg U.cells] (.tup [.sl 4 ((mRes T U).1.map Bd.cells), .v (.int .i64 (mRes T U).2)]) := by
  refine APure.mkL (.cons T.dataAgg (.cons U.dataAgg .nil)) ((.tup (.cons (Bd.dataSl _) (.cons (.v _) .nil)))) ?_
  refine ACalls_intro Tryd.func45 (by kernel_rfl) rfl (by rw [Tryd.ntmps45]; simp) (fun hm => ?_)
  simp only [Tryd.ntmps45, Tryd.results45, List.length_cons, List.length_nil, Nat.reduceAdd, Nat.reduceSub, List.replicate_succ, List.replicate_zero, List.cons_append, List.nil_append]
  have hrp := RightL_pure [T, U]
  simp only [List.map_cons, List.map_nil, List.all_cons, List.all_nil, Bool.and_true] at hrp
  have hvp := Vars_pure [T] (by simp only [Ty.cntL]; omega)
  simp only [List.map_cons, List.map_nil, Ty.rvarsL] at hvp
  have hvl := T.rvars_len []
  simp only [List.length_nil] at hvl
  refine AWp_seqK fun Y0 y0 => ?_
  refine AWp_region ?_
  refine aops_chunk 3 fun Q0 q0 => ?_
  simp only [↓bO, go_sem, seval, Bd.take1, Bd.drop1, Bd.cells_len, Bd.one, ↓valAV_ty]
  refine q0 _ ?_
  clear q0 Q0
  simp only [go_sem]
  simp only [↓bO, go_sem, seval, Bd.take1, Bd.drop1, Bd.cells_len, Bd.one, ↓valAV_ty]
  refine y0 _ ?_
  try clear y0 Y0
  refine AWp_seqK fun Y0 y0 => ?_
  refine AWp_region ?_
  simp only [↓bO, go_sem, seval, Bd.take1, Bd.drop1, Bd.cells_len, Bd.one, ↓valAV_ty]
  refine y0 _ ?_
  try clear y0 Y0
  refine AWp_seqK fun Y0 y0 => ?_
  refine AWp_block ?_
  refine AWp_seqK fun Y1 y1 => ?_
  refine AWp_region ?_
  refine aops_chunk 3 fun Q0 q0 => ?_
  simp only [↓bO, go_sem, seval, ↓bs2_1, ↓bs2_2, ↓bs2_3, ↓bs2_4, ↓bs2_5, ↓bs2_6, ↓bs2_7, ↓bs2_8, ↓bs2_9, ↓bs2_10, ↓bs2_11, ↓bs2_12, Bd.take1, Bd.drop1, Bd.cells_len, Bd.one, ↓valAV_ty]
  refine q0 _ ?_
  clear q0 Q0
  simp only [go_sem]
  refine aops_chunk 1 fun Q0 q0 => ?_
  simp only [↓bO, go_sem, seval, Bd.take1, Bd.drop1, Bd.cells_len, Bd.one, ↓valAV_ty]
  refine APure.call (hrp) ?_
  try simp only [bS, bA, thenQ, blockQ, noGotoQ]
  refine q0 _ ?_
  clear q0 Q0
  simp only [go_sem]
  simp only [↓bO, go_sem, seval, Bd.take1, Bd.drop1, Bd.cells_len, Bd.one, ↓valAV_ty]
  refine y1 _ ?_
  try clear y1 Y1
  refine AWp_cond rfl (fun hb11 => ?_) (fun hb11 => ?_)
  ·
   have hr : (T.right && U.right) = false := by cases hv : (T.right && U.right) with | false => rfl | true => rw [hv] at hb11; cases hb11
   refine AWp_seqK fun Y1 y1 => ?_
   refine AWp_region ?_
   simp only [↓bO, go_sem, seval, Bd.take1, Bd.drop1, Bd.cells_len, Bd.one, ↓valAV_ty]
   refine y1 _ ?_
   try clear y1 Y1
   refine AWp_ret ?_
   try simp only [thenQ, blockQ, noGotoQ, retQ, aRes, tupOf, bS, bA]
   rw [mRes_arg hr]
   exact Le.tup ⟨Le.slNil 4, .refl _, trivial⟩
  ·
   have hr : (T.right && U.right) = true := by cases hv : (T.right && U.right) with | true => rfl | false => rw [hv] at hb11; cases hb11
   have hr2 : T.right = true ∧ U.right = true := by simpa using hr
   refine AWp_seqK fun Y1 y1 => ?_
   refine AWp_region ?_
   refine aops_chunk 3 fun Q0 q0 => ?_
   simp only [↓bO, go_sem, seval, Bd.take1, Bd.drop1, Bd.cells_len, Bd.one, ↓valAV_ty]
   refine q0 _ ?_
   clear q0 Q0
   simp only [go_sem]
   refine aops_chunk 1 fun Q0 q0 => ?_
   simp only [↓bO, go_sem, seval, Bd.take1, Bd.drop1, Bd.cells_len, Bd.one, ↓valAV_ty]
   refine MCalls.at (match_calls T U []) (.cons T.dataAgg (.cons U.dataAgg .nil)) (.v _) (i := 2) rfl (by first | omega | (simp only; omega)) ?_
   simp only [putO, Nat.reduceEqDiff, ↓reduceIte]
   try simp only [bS, bA, thenQ, blockQ, noGotoQ]
   refine q0 _ ?_
   clear q0 Q0
   simp only [go_sem]
   simp only [↓bO, go_sem, seval, Bd.take1, Bd.drop1, Bd.cells_len, Bd.one, ↓valAV_ty]
   refine y1 _ ?_
   try clear y1 Y1
   refine AWp_cond rfl (fun hb17 => ?_) (fun hb17 => ?_)
   ·
    have hmt : (T.match U []).1 = false := by cases hv : (T.match U []).1 with | false => rfl | true => rw [hv] at hb17; cases hb17
    refine AWp_seqK fun Y1 y1 => ?_
    refine AWp_region ?_
    simp only [↓bO, go_sem, seval, Bd.take1, Bd.drop1, Bd.cells_len, Bd.one, ↓valAV_ty]
    refine y1 _ ?_
    try clear y1 Y1
    refine AWp_ret ?_
    try simp only [thenQ, blockQ, noGotoQ, retQ, aRes, tupOf, bS, bA]
    rw [mRes_clash hr hmt]
    exact Le.tup ⟨Le.slNil 4, .refl _, trivial⟩
   ·
    have hmt : (T.match U []).1 = true := by cases hv : (T.match U []).1 with | true => rfl | false => rw [hv] at hb17; cases hb17
    have hmo := Ty.match_ok T hr2.1 U [] hr2.2 hmt
    refine AWp_skip ?_
    try simp only [thenQ, blockQ, noGotoQ]
    refine y0 _ ?_
    try clear y0 Y0
    refine AWp_seqK fun Y0 y0 => ?_
    refine AWp_region ?_
    simp only [↓bO, go_sem, seval, Bd.take1, Bd.drop1, Bd.cells_len, Bd.one, ↓valAV_ty]
    refine y0 _ ?_
    try clear y0 Y0
    refine AWp_seqK fun Y0 y0 => ?_
    refine AWp_seqK fun Y1 y1 => ?_
    refine AWp_region ?_
    refine aops_chunk 2 fun Q0 q0 => ?_
    simp only [↓bO, go_sem, seval, ↓bs1_1, ↓bs1_2, ↓bs1_3, ↓bs1_4, ↓bs1_5, ↓bs1_6, ↓bs1_7, ↓bs1_8, ↓bs1_9, ↓bs1_10, ↓bs1_11, ↓bs1_12, Bd.take1, Bd.drop1, Bd.cells_len, Bd.one, ↓valAV_ty]
    refine q0 _ ?_
    clear q0 Q0
    simp only [go_sem]
    refine aops_chunk 1 fun Q0 q0 => ?_
    simp only [↓bO, go_sem, seval, Bd.take1, Bd.drop1, Bd.cells_len, Bd.one, ↓valAV_ty]
    refine APure.call (hvp) ?_
    try simp only [bS, bA, thenQ, blockQ, noGotoQ]
    refine q0 _ ?_
    clear q0 Q0
    simp only [go_sem]
    simp only [↓bO, go_sem, seval, Bd.take1, Bd.drop1, Bd.cells_len, Bd.one, ↓valAV_ty]
    refine y1 _ ?_
    try clear y1 Y1
    refine AWp_block ?_
    refine AWp_weak (Weak.tokSlot 7 66 4 rfl) ?_
    simp only [List.set_cons_zero, List.set_cons_succ]
    refine AWp_loopM (σ := Nat) (mB 42 234881216) (fun s => s ≤ (T.rvars []).length) (fun s => [(7, .osl 3 4 ((((T.rvars []).take s).map (hB (T.match U []).2)).map Bd.cells)), (27, .v (.int .i64 (s : Int)))]) (fun s => [(3, .tok 66 4 s)]) (fun s => (T.rvars []).length - s) 0 (by omega) ?_ (fun s hs => ?_)
    ·
     simp only [maskL, setsL, putsO, putO, mB, List.set_cons_zero, List.set_cons_succ, seval, bL]
     exact Weak.mk (by simp only [go_sem, Le.refl, Le.any, Le.slNil, Int.natCast_add, Int.cast_ofNat_Int, Int.natCast_one]) (fun _ _ h => h) rfl rfl
    simp only [maskL, setsL, putsO, putO, mB, List.set_cons_zero, List.set_cons_succ, seval]
    refine AWp_seqK fun Y1 y1 => ?_
    refine AWp_region ?_
    simp only [↓bO, go_sem, seval, Bd.take1, Bd.drop1, Bd.cells_len, Bd.one, ↓valAV_ty]
    refine y1 _ ?_
    try clear y1 Y1
    refine AWp_seqK fun Y1 y1 => ?_
    refine AWp_cond rfl (fun hb28 => ?_) (fun hb28 => ?_)
    ·
     have hk : s < (T.rvars []).length := by simpa using hb28
     obtain ⟨v, hv⟩ : ∃ v, (T.rvars [])[s]? = some v := ⟨_, List.getElem?_eq_getElem hk⟩
     obtain ⟨x, hx⟩ := hmo.has v (List.mem_of_getElem? hv)
     have hxc : x.cnt ≤ 1099511627776 := by rcases hmo.new v x hx with h9 | h9 <;> first | (simp [pfind] at h9; done) | (have := Ty.stand_cnt v T U x h9.1; omega)
     have hw : IntKind.i64.wrap ((s : Int) + 1) = (s : Int) + 1 := wrap_in (by omega) (by omega)
     have hln : ((((T.rvars []).take s).map (hB (T.match U []).2)).map Bd.cells).length = s := by simp; omega
     have hb1 : (s + 1) * 48 ≤ 140737488355328 := by omega
     have hb2 : s + 1 ≤ maxLen := by simp only [maxLen]; omega
     refine AWp_skip ?_
     try simp only [thenQ, blockQ, noGotoQ]
     refine y1 _ ?_
     try clear y1 Y1
     refine AWp_seqK fun Y1 y1 => ?_
     refine AWp_block ?_
     refine AWp_seqK fun Y2 y2 => ?_
     refine AWp_region ?_
     simp only [↓bO, go_sem, seval, Bd.take1, Bd.drop1, Bd.cells_len, Bd.one, ↓valAV_ty, hk, gM hv, intC, mGet hx, Int.natCast_add, hw, hln, hb1, hb2, List.map_append, take_map_step (hB (T.match U []).2) hv, hB_cells hx]
     refine y2 _ ?_
     try clear y2 Y2
     refine AWp_region ?_
     refine aops_chunk 3 fun Q0 q0 => ?_
     simp only [↓bO, go_sem, seval, Bd.take1, Bd.drop1, Bd.cells_len, Bd.one, ↓valAV_ty, hk, gM hv, intC, mGet hx, Int.natCast_add, hw, hln, hb1, hb2, List.map_append, take_map_step (hB (T.match U []).2) hv, hB_cells hx]
     refine q0 _ ?_
     clear q0 Q0
     simp only [go_sem]
     refine aops_chunk 2 fun Q0 q0 => ?_
     simp only [↓bO, go_sem, seval, Bd.take1, Bd.drop1, Bd.cells_len, Bd.one, ↓valAV_ty, hk, gM hv, intC, mGet hx, Int.natCast_add, hw, hln, hb1, hb2, List.map_append, take_map_step (hB (T.match U []).2) hv, hB_cells hx]
     refine q0 _ ?_
     clear q0 Q0
     simp only [go_sem]
     refine aops_chunk 1 fun Q0 q0 => ?_
     simp only [↓bO, go_sem, seval, Bd.take1, Bd.drop1, Bd.cells_len, Bd.one, ↓valAV_ty, hk, gM hv, intC, mGet hx, Int.natCast_add, hw, hln, hb1, hb2, List.map_append, take_map_step (hB (T.match U []).2) hv, hB_cells hx]
     refine APure.call (Copy_pure x hxc) ?_
     try simp only [bS, bA, thenQ, blockQ, noGotoQ]
     refine q0 _ ?_
     clear q0 Q0
     simp only [go_sem]
     refine aops_chunk 3 fun Q0 q0 => ?_
     simp only [↓bO, go_sem, seval, ↓bs1_1, ↓bs1_2, ↓bs1_3, ↓bs1_4, ↓bs1_5, ↓bs1_6, ↓bs1_7, ↓bs1_8, ↓bs1_9, ↓bs1_10, ↓bs1_11, ↓bs1_12, Bd.take1, Bd.drop1, Bd.cells_len, Bd.one, ↓valAV_ty, hk, gM hv, intC, mGet hx, Int.natCast_add, hw, hln, hb1, hb2, List.map_append, take_map_step (hB (T.match U []).2) hv, hB_cells hx]
     refine q0 _ ?_
     clear q0 Q0
     simp only [go_sem]
     simp only [↓bO, go_sem, seval, Bd.take1, Bd.drop1, Bd.cells_len, Bd.one, ↓valAV_ty, hk, gM hv, intC, mGet hx, Int.natCast_add, hw, hln, hb1, hb2, List.map_append, take_map_step (hB (T.match U []).2) hv, hB_cells hx]
     refine y1 _ ?_
     try clear y1 Y1
     refine AWp_region ?_
     simp only [↓bO, go_sem, seval, Bd.take1, Bd.drop1, Bd.cells_len, Bd.one, ↓valAV_ty, hk, gM hv, intC, mGet hx, Int.natCast_add, hw, hln, hb1, hb2, List.map_append, take_map_step (hB (T.match U []).2) hv, hB_cells hx]
     refine ⟨(s + 1), (by omega), by omega, ?_⟩
     simp only [maskL, setsL, putsO, putO, mB, List.set_cons_zero, List.set_cons_succ, seval, hk, gM hv, intC, mGet hx, Int.natCast_add, Int.natCast_one, hw, hln, hb1, hb2, List.map_append, bL, take_map_step (hB (T.match U []).2) hv, hB_cells hx, Nat.reduceAdd, Nat.reduceLeDiff]
     exact Weak.mk (by simp only [go_sem, Le.refl, Le.any, Le.slNil, Int.natCast_add, Int.cast_ofNat_Int, Int.natCast_one]) (fun _ _ h => h) rfl rfl
    ·
     have hk : s = (T.rvars []).length := by simp at hb28; omega
     refine AWp_exit ?_
     simp only [thenQ, blockQ, noGotoQ, bA, Nat.reduceEqDiff, ↓reduceIte]
     refine y0 _ ?_
     try clear y0 Y0
     refine AWp_seqK fun Y0 y0 => ?_
     refine AWp_region ?_
     simp only [↓bO, go_sem, seval, Bd.take1, Bd.drop1, Bd.cells_len, Bd.one, ↓valAV_ty]
     refine y0 _ ?_
     try clear y0 Y0
     refine AWp_ret ?_
     try simp only [thenQ, blockQ, noGotoQ, retQ, aRes, tupOf, bS, bA]
     rw [mRes_ok hr hmt, haveB_eq]
     rw [hk, List.take_length]
     exact Le.tup ⟨Le.oslL, .refl _, trivial⟩
theorem Rp.slMap2 {E : Env} {A : Nat → Nat → Prop} {w : World} {sz : Nat} {xs ys : List (List AV)} {u : Value} (hl : ys.length = xs.length) (hsz : ∀ y ∈ ys, y.length = sz)
    (hfl : ys.flatten.length = xs.flatten.length) (hr : ∀ (j : Nat) (c d : AV) (u : Value), xs.flatten[j]? = some c → ys.flatten[j]? = some d → Rp E A w c u → Rp E A w d u) (h : Rp E A w (.sl sz xs) u) : Rp E A w (.sl sz ys) u := by
  cases h with
  | sl0 hc =>
    have : ys = [] := List.eq_nil_of_length_eq_zero (by simpa using hl)
    subst this; exact .sl0 hc
  | sl g hn hcap hc hs hcell h =>
    refine .sl g (hn.trans hl.symm) hcap hc hsz (fun j hj => hcell j (by omega)) fun j d hd => ?_
    have hj : j < xs.flatten.length := by have := (List.getElem?_eq_some_iff.1 hd).1; omega
    exact hr j _ d _ (List.getElem?_eq_getElem hj) hd (h j _ (List.getElem?_eq_getElem hj))
theorem Le.slC2 {sz : Nat} {xs ys : List (List AV)} (hl : ys.length = xs.length) (hy : ∀ y ∈ ys, y.length = sz) (hf : LeL xs.flatten ys.flatten) : Le (.sl sz xs) (.sl sz ys) := fun E A w u hr =>
  hr.slMap2 hl hy hf.length.symm fun j c d u hc hd hk => by
    obtain ⟨x, hx, hle⟩ := hf.get j d hd
    rw [hc] at hx; cases hx
    exact hle _ _ _ _ hk
def LowM (m : List (Int × Ty)) : Prop := ∀ (k : Int) (x : Ty), pfind m k = some x → x.cnt ≤ 1099511627776
theorem LowM.tab {l : List Bd} (h : ∀ b ∈ l, b.t.cnt ≤ 1099511627776) : LowM (tabM l) := fun k x hx => by
  have := pfind_mem hx
  obtain ⟨b, hb, e⟩ := List.mem_map.1 this
  cases e; exact h b hb
theorem callB_step {vs names : List Int} {s : Nat} {v n : Int} (h1 : vs[s]? = some v) (h2 : names[s]? = some n) : (callB vs names).take (s + 1) = (callB vs names).take s ++ [⟨v, vTy n⟩] := by
  have h : (callB vs names)[s]? = some ⟨v, vTy n⟩ := by
    have h9 : (vs.zip names)[s]? = some (v, n) := List.getElem?_zip_eq_some.2 ⟨h1, h2⟩
    unfold callB; rw [List.getElem?_map, h9]; rfl
  rw [List.take_add_one, h]; rfl
theorem callB_len {vs names : List Int} (h : vs.length = names.length) : (callB vs names).length = vs.length := by simp [callB, h]
theorem SApply_pure (l : List Bd) (T : Ty) (hn : (l.map Bd.v).Nodup) (hl : l.length ≤ 1048576) (hb : ∀ b ∈ l, b.t.cnt ≤ 1099511627776) (hT : T.cnt ≤ 1099511627776) : APure Tryd.prog 76 [.sl 4 (l.map Bd.cells), .agg T.cells] (.agg (T.subM (tabM l)).cells) := by
  refine APure.mkL (.cons (Bd.dataSl l) (.cons T.dataAgg .nil)) ((Ty.dataAgg _)) ?_
  refine ACalls_intro Tryd.func76 (by kernel_rfl) rfl (by rw [Tryd.ntmps76]; simp) (fun hm => ?_)
  simp only [Tryd.ntmps76, Tryd.results76, List.length_cons, List.length_nil, Nat.reduceAdd, Nat.reduceSub, List.replicate_succ, List.replicate_zero, List.cons_append, List.nil_append]
  refine AWp_joinZ [true, false, false, true, true, false, false, false, false] ([(3, .eptr T.cells), (4, .ptr 1 0)]) [(1, .cells 25 [.v (.int .i64 0), .v (.int .i64 0), .v (.slice none 0 0)])] 2 (True) ?_ (fun hC => ?_)
  ·
   refine AWp_region ?_
   refine aops_chunk 1 fun Q0 q0 => ?_
   simp only [↓bO, go_sem, seval]
   refine q0 _ ?_
   clear q0 Q0
   simp only [go_sem]
   simp only [↓bO, go_sem, seval]
   try simp only [maskL, setsL, putsO, putO, mB, List.set_cons_zero, List.set_cons_succ, seval]
   first | refine ⟨trivial, ?_⟩ | skip
   refine Weak.freeze ?_ ⟨rfl, trivial⟩ (by first | omega | (simp only; omega)) (by first | omega | (simp only; omega)) ?_ ?_
   · repeat' first | trivial | exact .inr ⟨_, _, _, rfl, rfl, rfl, rfl⟩ | exact .inl (.refl _) | exact .inl (.any _) | (refine ⟨?_, ?_⟩)
   · repeat' first | exact trivial | exact .any _ | exact .v _ _ | exact .ptr (by omega) | exact Und.data (dataInts _) | exact Und.data (Bd.dataSl _) | exact Und.data Sch.eptr | exact Und.data Sch.agg | exact Und.data (Ty.dataSl _) | exact Und.data (.eptr (Ty.data _)) | exact Und.data (.eptr (.cons (dataInts _) .nil)) | exact .own (by omega) | (refine ⟨?_, ?_⟩)
   · repeat' first | exact trivial | (with_reducible omega) | exact Und.rowI (iD_data _) | exact UndL.data (Ty.data _) | exact UndL.data (Sch.data _) | exact .v _ _ | (refine ⟨?_, ?_⟩)
  simp only [maskL, setsL, putsO, putO, mB, List.set_cons_zero, List.set_cons_succ, seval]
  refine AWp_seqK fun Y0 y0 => ?_
  refine NAny_start 5 [3] rfl mixed ?_
  dsimp only
  refine NAny_takeK 0 rfl (by kernel_rfl) (by kernel_rfl) (by kernel_rfl) (fun _ _ h => h) (by kernel_rfl) (fun d h => by cases h; rfl) (by kernel_rfl) (G' := [3]) (by kernel_rfl) fun Q0 q0 => ?_
  simp only [↓bO, go_sem, seval, nHead, isE, isSE, isV]
  refine q0 _ ?_
  clear q0 Q0
  refine NAny_takeK 2 rfl (by kernel_rfl) (by kernel_rfl) (by kernel_rfl) (fun _ _ h => h) (by kernel_rfl) (fun d h => by cases h; rfl) (by kernel_rfl) (G' := [7, 3]) (by kernel_rfl) fun Q0 q0 => ?_
  simp only [↓bO, go_sem, seval, nHead, isE, isSE, isV]
  refine q0 _ ?_
  clear q0 Q0
  refine NAny_all1 (i := 1) (by kernel_rfl) rfl (fun d h => by cases h; rfl) ?_
  refine aAt_op rfl rfl fun Q0 q0 => ?_
  simp only [↓bO, go_sem, seval]
  refine table_at hn hl ?_
  try simp only [List.cons_append, List.nil_append]
  try simp only [bS, bA]
  refine q0 _ ⟨⟨rfl, rfl, trivial⟩, ?_⟩
  clear q0 Q0
  refine NAny_all1 (i := 3) (by kernel_rfl) rfl (fun d h => by cases h; rfl) ?_
  refine aAt_op rfl rfl fun Q0 q0 => ?_
  simp only [↓bO, go_sem, seval]
  refine MCalls.at (apply_calls T (tabM l) (LowM.tab hb) hT) (.cons (Ty.dataAgg _) .nil) (Ty.dataAgg _) (i := 2) rfl (by first | omega | (simp only; omega)) ?_
  simp only [putO, Nat.reduceEqDiff, ↓reduceIte]
  try simp only [bS, bA]
  refine q0 _ ⟨⟨rfl, rfl, trivial⟩, ?_⟩
  clear q0 Q0
  refine NAny_all1 (i := 4) (by kernel_rfl) rfl (fun d h => by cases h) ?_
  refine aAt_op rfl rfl fun Q0 q0 => ?_
  simp only [↓bO, go_sem, seval]
  refine q0 _ ⟨⟨rfl, rfl, trivial⟩, ?_⟩
  clear q0 Q0
  refine NAny_done (by kernel_rfl) ?_
  simp only [thenQ, blockQ, noGotoQ]
  refine y0 _ ?_
  try clear y0 Y0
  refine AWp_ret ?_
  try simp only [thenQ, blockQ, noGotoQ, retQ, aRes, tupOf, bS, bA, aLoad, getO, pack, bL, Nat.reduceAdd, Nat.reduceLeDiff, Nat.reduceEqDiff, ↓reduceIte, ti25, tyX]
  exact Le.refl _
theorem inst_le {id : Nat} (l : List Bd) (v : Int) (u : Ty) : Le (.osl id 4 (l.map Bd.cells ++ [.v (.int .i64 v) :: u.cells])) (.osl id 4 ((l ++ [(⟨v, u⟩ : Bd)]).map Bd.cells)) := .of_eq (by rw [List.map_append]; rfl)
theorem zSch_le : Le (.agg [.v (.slice none 0 0), .v (.int .i64 0), .v (.int .i64 0), .v (.slice none 0 0)]) (.agg zSch.cells) := .agg (by rw [Sch.cells_eq]; exact ⟨Le.slNil 1, .refl _, .refl _, Le.slNil 3, trivial⟩)
def closeS (t : Ty) (ar : List Ty) : Sch := if t.right = true then closeR t ar else zSch
theorem called_pure (s : Sch) (nm : Nat → Int) (g : Nat) (caps : List AV) (hok : s.ok = true) (hv : s.vs.length ≤ 1048576) (hc : s.t.cnt ≤ 1048576) (hcd : DataL caps) (hf : ∀ i : Nat, i < s.vs.length → APure Tryd.prog g (.v (.int .i64 (i : Int)) :: caps) (.v (.int .i64 (nm i)))) : APure Tryd.prog 52 [.agg s.cells, .clo g caps] (.agg (s.t.sub (callB s.vs ((List.range s.vs.length).map nm))).cells) := by
  refine APure.mkL (.cons Sch.agg (.cons (.clo hcd) .nil)) ((Ty.dataAgg _)) ?_
  refine ACalls_intro Tryd.func52 (by kernel_rfl) rfl (by rw [Tryd.ntmps52]; simp) (fun hm => ?_)
  simp only [Tryd.ntmps52, Tryd.results52, List.length_cons, List.length_nil, Nat.reduceAdd, Nat.reduceSub, List.replicate_succ, List.replicate_zero, List.cons_append, List.nil_append]
  have hnl : s.vs.length = ((List.range s.vs.length).map nm).length := by simp
  have hcv := callB_v hnl
  have hnd : ((callB s.vs ((List.range s.vs.length).map nm)).map Bd.v).Nodup := by rw [hcv]; exact Sch.vs_nodup hok
  refine AWp_joinZ (mB 30 22) ([(2, .eptr s.cells), (4, .ptr 1 0)]) [(1, .cells 25 [.v (.int .i64 0), .v (.int .i64 0), .v (.slice none 0 0)])] 2 (True) ?_ (fun hC => ?_)
  ·
   refine AWp_region ?_
   refine aops_chunk 1 fun Q0 q0 => ?_
   simp only [↓bO, go_sem, seval, Sch.cells, Bd.cells]
   refine q0 _ ?_
   clear q0 Q0
   simp only [go_sem]
   simp only [↓bO, go_sem, seval, Sch.cells, Bd.cells]
   try simp only [maskL, setsL, putsO, putO, mB, List.set_cons_zero, List.set_cons_succ, seval]
   first | refine ⟨trivial, ?_⟩ | skip
   refine Weak.freeze ?_ ⟨rfl, trivial⟩ (by first | omega | (simp only; omega)) (by first | omega | (simp only; omega)) ?_ ?_
   · repeat' first | trivial | exact .inr ⟨_, _, _, rfl, rfl, rfl, rfl⟩ | exact .inl (.refl _) | exact .inl (.any _) | (refine ⟨?_, ?_⟩)
   · repeat' first | exact trivial | exact .any _ | exact .v _ _ | exact .ptr (by omega) | exact Und.data (dataInts _) | exact Und.data (.clo hcd) | exact Und.data Sch.eptr | exact Und.data Sch.agg | exact Und.data (Ty.dataSl _) | exact Und.data (.eptr (Ty.data _)) | exact Und.data (.eptr (.cons (dataInts _) .nil)) | exact .own (by omega) | (refine ⟨?_, ?_⟩)
   · repeat' first | exact trivial | (with_reducible omega) | exact Und.rowI (iD_data _) | exact UndL.data (Ty.data _) | exact UndL.data (Sch.data _) | exact .v _ _ | (refine ⟨?_, ?_⟩)
  simp only [maskL, setsL, putsO, putO, mB, List.set_cons_zero, List.set_cons_succ, seval]
  refine AWp_seqK fun Y0 y0 => ?_
  refine AWp_region ?_
  simp only [↓bO, go_sem, seval, Sch.cells, Bd.cells]
  refine y0 _ ?_
  try clear y0 Y0
  refine AWp_seqK fun Y0 y0 => ?_
  refine AWp_seqK fun Y1 y1 => ?_
  refine AWp_region ?_
  iterate 3 (refine aops_chunk 1 fun Q0 q0 => ?_; simp only [↓bO, go_sem, seval, Sch.cells, Bd.cells]; refine q0 _ ?_; clear q0 Q0; simp only [go_sem])
  simp only [↓bO, go_sem, seval, Sch.cells, Bd.cells]
  refine y1 _ ?_
  try clear y1 Y1
  refine AWp_block ?_
  refine AWp_weak (Weak.tokSlot 5 66 4 rfl) ?_
  simp only [List.set_cons_zero, List.set_cons_succ]
  refine AWp_loopM (σ := Nat) (mB 30 3638) (fun z => z ≤ s.vs.length) (fun z => [(5, .osl 2 4 (((callB s.vs ((List.range s.vs.length).map nm)).take z).map Bd.cells)), (11, .v (.int .i64 (z : Int)))]) (fun z => [(2, .tok 66 4 z)]) (fun z => s.vs.length - z) 0 (Nat.zero_le _) ?_ (fun z hz => ?_)
  ·
   simp only [maskL, setsL, putsO, putO, mB, List.set_cons_zero, List.set_cons_succ, seval, bL]
   exact Weak.mk (by simp only [go_sem, Le.refl, Le.any, Le.slNil, Int.natCast_add, Int.cast_ofNat_Int, Int.natCast_one]) (fun _ _ h => h) rfl rfl
  simp only [maskL, setsL, putsO, putO, mB, List.set_cons_zero, List.set_cons_succ, seval]
  refine AWp_seqK fun Y1 y1 => ?_
  refine AWp_region ?_
  simp only [↓bO, go_sem, seval, Sch.cells, Bd.cells]
  refine y1 _ ?_
  try clear y1 Y1
  refine AWp_seqK fun Y1 y1 => ?_
  refine AWp_cond rfl (fun hb12 => ?_) (fun hb12 => ?_)
  ·
   have hk : z < s.vs.length := by (have h9 := hb12; simp at h9; omega)
   obtain ⟨v, hv9⟩ : ∃ v, s.vs[z]? = some v := ⟨_, List.getElem?_eq_getElem hk⟩
   have hn9 : ((List.range s.vs.length).map nm)[z]? = some (nm z) := by simp [hk]
   have hw : IntKind.i64.wrap ((z : Int) + 1) = (z : Int) + 1 := wrap_in (by omega) (by omega)
   have hcl : ((callB s.vs ((List.range s.vs.length).map nm)).take z).length = z := by (rw [List.length_take, callB_len hnl]; omega)
   have hb1 : (z + 1) * 48 ≤ 140737488355328 := by omega
   have hb2 : z + 1 ≤ maxLen := by (simp only [maxLen]; omega)
   have hst := callB_step hv9 hn9
   refine AWp_skip ?_
   try simp only [thenQ, blockQ, noGotoQ]
   refine y1 _ ?_
   try clear y1 Y1
   refine AWp_seqK fun Y1 y1 => ?_
   refine AWp_block ?_
   refine AWp_seqK fun Y2 y2 => ?_
   refine AWp_region ?_
   iterate 4 (refine aops_chunk 1 fun Q0 q0 => ?_; simp only [↓bO, go_sem, seval, Sch.cells, Bd.cells, hk, gM hv9, intC, hw, hcl, hb1, hb2, Int.natCast_add]; refine q0 _ ?_; clear q0 Q0; simp only [go_sem])
   simp only [↓bO, go_sem, seval, Sch.cells, Bd.cells, hk, gM hv9, intC, hw, hcl, hb1, hb2, Int.natCast_add]
   refine y2 _ ?_
   try clear y2 Y2
   refine AWp_region ?_
   iterate 4 (refine aops_chunk 1 fun Q0 q0 => ?_; simp only [↓bO, go_sem, seval, Sch.cells, Bd.cells, hk, gM hv9, intC, hw, hcl, hb1, hb2, Int.natCast_add]; refine q0 _ ?_; clear q0 Q0; simp only [go_sem])
   refine aops_chunk 1 fun Q0 q0 => ?_
   simp only [↓bO, go_sem, seval, Sch.cells, Bd.cells, hk, gM hv9, intC, hw, hcl, hb1, hb2, Int.natCast_add]
   refine APure.call (hf z hk) ?_
   try simp only [bS, bA, thenQ, blockQ, noGotoQ]
   refine q0 _ ?_
   clear q0 Q0
   simp only [go_sem]
   refine aops_chunk 1 fun Q0 q0 => ?_
   simp only [↓bO, go_sem, seval, Sch.cells, Bd.cells, hk, gM hv9, intC, hw, hcl, hb1, hb2, Int.natCast_add]
   refine APure.call (TVar_pure (nm z)) ?_
   try simp only [bS, bA, thenQ, blockQ, noGotoQ]
   refine q0 _ ?_
   clear q0 Q0
   simp only [go_sem]
   refine aops_chunk 1 fun Q0 q0 => ?_
   simp only [↓bO, go_sem, seval, Sch.cells, Bd.cells, hk, gM hv9, intC, hw, hcl, hb1, hb2, Int.natCast_add]
   refine q0 _ ?_
   clear q0 Q0
   simp only [go_sem]
   refine aops_chunk 1 fun Q0 q0 => ?_
   simp only [↓bO, go_sem, seval, ↓bs1_1, ↓bs1_2, ↓bs1_3, ↓bs1_4, ↓bs1_5, ↓bs1_6, ↓bs1_7, ↓bs1_8, ↓bs1_9, ↓bs1_10, ↓bs1_11, ↓bs1_12, Sch.cells, Bd.cells, hk, gM hv9, intC, hw, hcl, hb1, hb2, Int.natCast_add]
   refine q0 _ ?_
   clear q0 Q0
   simp only [go_sem]
   refine aops_chunk 1 fun Q0 q0 => ?_
   simp only [↓bO, go_sem, seval, Sch.cells, Bd.cells, hk, gM hv9, intC, hw, hcl, hb1, hb2, Int.natCast_add]
   refine q0 _ ?_
   clear q0 Q0
   simp only [go_sem]
   simp only [↓bO, go_sem, seval, Sch.cells, Bd.cells, hk, gM hv9, intC, hw, hcl, hb1, hb2, Int.natCast_add]
   refine y1 _ ?_
   try clear y1 Y1
   refine AWp_region ?_
   refine aops_chunk 1 fun Q0 q0 => ?_
   simp only [↓bO, go_sem, seval, Sch.cells, Bd.cells, hk, gM hv9, intC, hw, hcl, hb1, hb2, Int.natCast_add]
   refine q0 _ ?_
   clear q0 Q0
   simp only [go_sem]
   simp only [↓bO, go_sem, seval, Sch.cells, Bd.cells, hk, gM hv9, intC, hw, hcl, hb1, hb2, Int.natCast_add]
   refine ⟨z + 1, (by omega), (by omega), ?_⟩
   simp only [maskL, setsL, putsO, putO, mB, List.set_cons_zero, List.set_cons_succ, seval, Int.natCast_add, Int.natCast_one, Int.cast_ofNat_Int]
   rw [hst]
   refine Weak.mk ?_ (fun _ _ h => h) rfl rfl
   repeat' first | exact trivial | exact .refl _ | exact .any _ | exact inst_le _ _ _ | (refine ⟨?_, ?_⟩)
  ·
   have hk : z = s.vs.length := by (have h9 := hb12; simp at h9; omega)
   rw [show ((callB s.vs ((List.range s.vs.length).map nm)).take z) = (callB s.vs ((List.range s.vs.length).map nm)) from by rw [hk]; exact List.take_of_length_le (by rw [callB_len hnl]; omega)]
   refine AWp_exit ?_
   simp only [thenQ, blockQ, noGotoQ, bA, Nat.reduceEqDiff, ↓reduceIte]
   refine y0 _ ?_
   try clear y0 Y0
   refine AWp_seqK fun Y0 y0 => ?_
   refine AWp_region ?_
   iterate 3 (refine aops_chunk 1 fun Q0 q0 => ?_; simp only [↓bO, go_sem, seval, Sch.cells, Bd.cells]; refine q0 _ ?_; clear q0 Q0; simp only [go_sem])
   refine aops_chunk 1 fun Q0 q0 => ?_
   simp only [↓bO, go_sem, seval, Sch.cells, Bd.cells]
   refine ACalls.args (args' := [.sl 4 ((callB s.vs ((List.range s.vs.length).map nm)).map Bd.cells), .agg s.t.cells]) ⟨Le.oslL, .refl _, trivial⟩ ?_
   refine APure.call (SApply_pure (callB s.vs ((List.range s.vs.length).map nm)) s.t hnd (by rw [callB_len hnl]; omega) (fun b hb => by (obtain ⟨p, _, rfl⟩ := List.mem_map.1 hb; rw [show (vTy p.2).cnt = 1 from by simp [vTy, Ty.cnt_eq, Ty.ps, Ty.cntL]]; omega)) (by omega)) ?_
   rw [Ty.subM_bfun _ _ (Sch.ok_iff.1 hok).1, ← Ty.sub_subF _ _ (Sch.ok_iff.1 hok).1]
   try simp only [bS, bA, thenQ, blockQ, noGotoQ]
   refine q0 _ ?_
   clear q0 Q0
   simp only [go_sem]
   simp only [↓bO, go_sem, seval, Sch.cells, Bd.cells]
   refine y0 _ ?_
   try clear y0 Y0
   refine AWp_ret ?_
   try simp only [thenQ, blockQ, noGotoQ, retQ, aRes, tupOf, bS, bA, aLoad, getO, pack, bL, Nat.reduceAdd, Nat.reduceLeDiff, Nat.reduceEqDiff, ↓reduceIte, ti25, tyX, Sch.cells, List.length_map, Bd.cells]
   exact Le.refl _
theorem mark_pure : ∀ (T : Ty) (g : Nat) (caps : List AV) (f : Int → Bool) (hd : DataL caps) (hφ : ∀ n : Int, APure Tryd.prog g (.v (.int .i64 n) :: caps) (.v (.bool (f n)))) (hT : T.cnt ≤ 1099511627776), APure Tryd.prog 71 [.agg T.cells, .clo g caps] (.agg (T.mark f).cells) := by
  refine Ty.ind fun T ih => ?_
  intro g caps f hd hφ hT
  refine APure.mkL (.cons T.dataAgg (.cons (.clo hd) .nil)) ((Ty.dataAgg _)) ?_
  refine ACalls_intro Tryd.func71 (by kernel_rfl) rfl (by rw [Tryd.ntmps71]; simp) (fun hm => ?_)
  simp only [Tryd.ntmps71, Tryd.results71, List.length_cons, List.length_nil, Nat.reduceAdd, Nat.reduceSub, List.replicate_succ, List.replicate_zero, List.cons_append, List.nil_append]
  have hm1 := hm.wide (t := T) (by simp)
  have hcn := T.cnt_eq
  have hcl := Ty.cntL_len T.ps
  simp only [Ty.cells_eq T, List.cons_append, List.nil_append]
  refine AWp_seqK fun Y0 y0 => ?_
  refine AWp_region ?_
  simp only [↓bO, go_sem, seval]
  refine y0 _ ?_
  try clear y0 Y0
  refine AWp_seqK fun Y0 y0 => ?_
  refine AWp_joinM (mB 37 65558) ([(16, .v (.bool (decide (T.k = 1) && f T.n)))]) ([]) ?_ ?_
  ·
   refine AWp_region ?_
   refine aops_chunk 4 fun Q0 q0 => ?_
   simp only [↓bO, go_sem, seval]
   refine q0 _ ?_
   clear q0 Q0
   simp only [go_sem]
   refine aops_case 11 rfl (fun hc11 => ?_) (fun hc11 => ?_)
   ·
    simp only [List.set_cons_zero, List.set_cons_succ]
    have hk1 : T.k = 1 := by simpa using hc11
    refine aops_chunk 3 fun Q0 q0 => ?_
    simp only [↓bO, go_sem, seval, hk1]
    refine q0 _ ?_
    clear q0 Q0
    simp only [go_sem]
    refine aops_chunk 1 fun Q0 q0 => ?_
    simp only [↓bO, go_sem, seval, hk1]
    refine APure.call ((hφ T.n)) ?_
    try simp only [bS, bA, thenQ, blockQ, noGotoQ]
    refine q0 _ ?_
    clear q0 Q0
    simp only [go_sem]
    simp only [↓bO, go_sem, seval, hk1]
    try simp only [maskL, setsL, putsO, putO, mB, List.set_cons_zero, List.set_cons_succ, seval]
    refine Weak.mk ?_ (fun _ _ h => h) rfl rfl
    simp only [go_sem, Le.refl, Le.any]
    all_goals (refine Le.of_eq (congrArg (fun b => AV.v (.bool b)) ?_); (first | rw [hk1] | skip); simp [hk1])
   ·
    simp only [List.set_cons_zero, List.set_cons_succ]
    have hk1 : ¬ T.k = 1 := by simpa using hc11
    refine aops_chunk 4 fun Q0 q0 => ?_
    simp only [↓bO, go_sem, seval, hk1]
    refine q0 _ ?_
    clear q0 Q0
    simp only [go_sem]
    simp only [↓bO, go_sem, seval, hk1]
    try simp only [maskL, setsL, putsO, putO, mB, List.set_cons_zero, List.set_cons_succ, seval]
    refine Weak.mk ?_ (fun _ _ h => h) rfl rfl
    simp only [go_sem, Le.refl, Le.any]
    all_goals (refine Le.of_eq (congrArg (fun b => AV.v (.bool b)) ?_); (first | rw [hk1] | skip); simp [hk1])
  simp only [maskL, setsL, putsO, putO, mB, List.set_cons_zero, List.set_cons_succ, seval]
  refine AWp_cond rfl (fun hb16 => ?_) (fun hb16 => ?_)
  ·
   obtain ⟨hk1, hp1⟩ : T.k = 1 ∧ f T.n = true := by simpa using hb16
   refine AWp_seqK fun Y1 y1 => ?_
   refine AWp_region ?_
   simp only [↓bO, go_sem, seval]
   refine y1 _ ?_
   try clear y1 Y1
   refine AWp_ret ?_
   try simp only [thenQ, blockQ, noGotoQ, retQ, aRes, tupOf, bS, bA, aLoad, getO, pack, bL, Nat.reduceAdd, Nat.reduceLeDiff, Nat.reduceEqDiff, ↓reduceIte, ti25, tyX]
   refine Le.agg ?_
   rw [Ty.mark_yes hk1 hp1, Ty.cells_eq]
   exact ⟨.refl _, .refl _, Le.slNil 3, trivial⟩
  ·
   have hno : ¬ (T.k = 1 ∧ f T.n = true) := fun h9 => (by have h8 := hb16; rw [h9.2] at h8; simp [h9.1] at h8)
   refine AWp_skip ?_
   try simp only [thenQ, blockQ, noGotoQ]
   refine y0 _ ?_
   try clear y0 Y0
   refine AWp_seqK fun Y0 y0 => ?_
   refine AWp_region ?_
   simp only [↓bO, go_sem, seval]
   refine y0 _ ?_
   try clear y0 Y0
   refine AWp_seqK fun Y0 y0 => ?_
   refine AWp_seqK fun Y1 y1 => ?_
   refine AWp_region ?_
   simp only [↓bO, go_sem, seval]
   refine y1 _ ?_
   try clear y1 Y1
   refine AWp_block ?_
   refine AWp_weak (Weak.tokSlot 5 25 3 rfl) ?_
   simp only [List.set_cons_zero, List.set_cons_succ]
   refine AWp_loopM (σ := Nat) (mB 37 14680118) (fun s => s ≤ T.ps.length) (fun s => [(5, .osl 2 3 (((T.ps.take s).map (Ty.mark f)).map Ty.cells)), (23, .v (.int .i64 (s : Int)))]) (fun s => [(2, .tok 25 3 s)]) (fun s => T.ps.length - s) 0 (by omega) ?_ (fun s hs => ?_)
   ·
    simp only [maskL, setsL, putsO, putO, mB, List.set_cons_zero, List.set_cons_succ, seval, bL]
    exact Weak.mk (by simp only [go_sem, Le.refl, Le.any, Le.slNil, Int.natCast_add, Int.cast_ofNat_Int, Int.natCast_one]) (fun _ _ h => h) rfl rfl
   simp only [maskL, setsL, putsO, putO, mB, List.set_cons_zero, List.set_cons_succ, seval]
   refine AWp_seqK fun Y1 y1 => ?_
   refine AWp_region ?_
   simp only [↓bO, go_sem, seval]
   refine y1 _ ?_
   try clear y1 Y1
   refine AWp_seqK fun Y1 y1 => ?_
   refine AWp_cond rfl (fun hb24 => ?_) (fun hb24 => ?_)
   ·
    have hk : s < T.ps.length := by simpa using hb24
    obtain ⟨p, hp⟩ : ∃ p, T.ps[s]? = some p := ⟨_, List.getElem?_eq_getElem hk⟩
    have hpm := Ty.cnt_mem (List.mem_of_getElem? hp)
    have hw : IntKind.i64.wrap ((s : Int) + 1) = (s : Int) + 1 := wrap_in (by omega) (by omega)
    have hln : (((T.ps.take s).map (Ty.mark f)).map Ty.cells).length = s := by simp; omega
    have hb1 : (s + 1) * 40 ≤ 140737488355328 := by omega
    have hb2 : s + 1 ≤ maxLen := by simp only [maxLen]; omega
    refine AWp_skip ?_
    try simp only [thenQ, blockQ, noGotoQ]
    refine y1 _ ?_
    try clear y1 Y1
    refine AWp_seqK fun Y1 y1 => ?_
    refine AWp_block ?_
    refine AWp_seqK fun Y2 y2 => ?_
    refine AWp_region ?_
    simp only [↓bO, go_sem, seval, hk, gM hp, Int.natCast_add, hw, hln, hb1, hb2, List.map_append, take_map_step (Ty.mark f) hp]
    refine y2 _ ?_
    try clear y2 Y2
    refine AWp_region ?_
    refine aops_chunk 3 fun Q0 q0 => ?_
    simp only [↓bO, go_sem, seval, hk, gM hp, Int.natCast_add, hw, hln, hb1, hb2, List.map_append, take_map_step (Ty.mark f) hp]
    refine q0 _ ?_
    clear q0 Q0
    simp only [go_sem]
    refine aops_chunk 1 fun Q0 q0 => ?_
    simp only [↓bO, go_sem, seval, hk, gM hp, Int.natCast_add, hw, hln, hb1, hb2, List.map_append, take_map_step (Ty.mark f) hp]
    refine APure.call (ih p (List.mem_of_getElem? hp) g caps f hd hφ (by omega)) ?_
    try simp only [bS, bA, thenQ, blockQ, noGotoQ]
    refine q0 _ ?_
    clear q0 Q0
    simp only [go_sem]
    simp only [↓bO, go_sem, seval, ↓bs1_1, ↓bs1_2, ↓bs1_3, ↓bs1_4, ↓bs1_5, ↓bs1_6, ↓bs1_7, ↓bs1_8, ↓bs1_9, ↓bs1_10, ↓bs1_11, ↓bs1_12, hk, gM hp, Int.natCast_add, hw, hln, hb1, hb2, List.map_append, take_map_step (Ty.mark f) hp]
    refine y1 _ ?_
    try clear y1 Y1
    refine AWp_region ?_
    simp only [↓bO, go_sem, seval, hk, gM hp, Int.natCast_add, hw, hln, hb1, hb2, List.map_append, take_map_step (Ty.mark f) hp]
    refine ⟨(s + 1), (by omega), by omega, ?_⟩
    simp only [maskL, setsL, putsO, putO, mB, List.set_cons_zero, List.set_cons_succ, seval, hk, gM hp, Int.natCast_add, Int.natCast_one, hw, hln, hb1, hb2, List.map_append, bL, take_map_step (Ty.mark f) hp]
    first | (refine Weak.drops 1 3 rfl rfl (by simp only; omega) (by simp only; omega) ?_ ?_ ?_) | (refine Weak.drops 0 3 rfl rfl (by simp only; omega) (by simp only; omega) ?_ ?_ ?_)
    · simp only [go_sem, Le.refl, Le.any, Int.natCast_add, Int.cast_ofNat_Int, Int.natCast_one]
    · simp only [UndL, UndOs, Ob.Und, and_true, true_and, and_self, Und.v, Und.any, Und.ptr, Und.map, Nat.reduceLT, Nat.zero_lt_succ, Und.tys, Und.tyAgg, Und.oslTys, Und.oslTys1, Und.clo0, Und.ty, Und.data (n := 3) (Data.clo (f := g) hd)]
    · simp only [UndL, UndOs, Ob.Und, and_true, true_and, and_self, Und.v, Und.any, Und.ptr, Und.map, Nat.reduceLT, Nat.zero_lt_succ, Und.tys, Und.tyAgg, Und.oslTys, Und.oslTys1, Und.clo0, Und.ty, Und.data (n := 3) (Data.clo (f := g) hd)]
   ·
    have hk : s = T.ps.length := by simp at hb24; omega
    refine AWp_exit ?_
    simp only [thenQ, blockQ, noGotoQ, bA, Nat.reduceEqDiff, ↓reduceIte]
    iterate 2 (refine y0 _ ?_; (try clear y0 Y0); refine AWp_seqK fun Y0 y0 => ?_; refine AWp_region ?_; simp only [↓bO, go_sem, seval])
    refine y0 _ ?_
    try clear y0 Y0
    refine AWp_ret ?_
    try simp only [thenQ, blockQ, noGotoQ, retQ, aRes, tupOf, bS, bA, aLoad, getO, pack, bL, Nat.reduceAdd, Nat.reduceLeDiff, Nat.reduceEqDiff, ↓reduceIte, ti25, tyX]
    refine Le.agg ?_
    rw [Ty.mark_no hno, Ty.cells_eq, hk, List.take_length]
    exact ⟨.refl _, .refl _, Le.oslL, trivial⟩
theorem Rigid1_pure (s : Sch) (hl : s.vs.length ≤ 1099511627776) (v : Int) : APure Tryd.prog 72 [.v (.int .i64 v), .eptr s.cells] (.v (.bool (!decide (v ∈ s.vs)))) := by
  refine APure.mkL (.cons (.v _) (.cons Sch.eptr .nil)) (.v _) ?_
  refine ACalls_intro Tryd.func72 (by kernel_rfl) rfl (by rw [Tryd.ntmps72]; simp) (fun hm => ?_)
  simp only [Tryd.ntmps72, Tryd.results72, List.length_cons, List.length_nil, Nat.reduceAdd, Nat.reduceSub, List.replicate_succ, List.replicate_zero, List.cons_append, List.nil_append]
  refine AWp_seqK fun Y0 y0 => ?_
  refine AWp_region ?_
  simp only [↓bO, go_sem, seval, Sch.cells]
  refine y0 _ ?_
  try clear y0 Y0
  refine AWp_seqK fun Y0 y0 => ?_
  refine AWp_region ?_
  iterate 3 (refine aops_chunk 1 fun Q0 q0 => ?_; simp only [↓bO, go_sem, seval, Sch.cells]; refine q0 _ ?_; clear q0 Q0; simp only [go_sem])
  refine aops_chunk 1 fun Q0 q0 => ?_
  simp only [↓bO, go_sem, seval, Sch.cells]
  refine APure.call (Cont_pure s.vs v hl) ?_
  try simp only [bS, bA, thenQ, blockQ, noGotoQ]
  refine q0 _ ?_
  clear q0 Q0
  simp only [go_sem]
  refine aops_chunk 1 fun Q0 q0 => ?_
  simp only [↓bO, go_sem, seval, Sch.cells]
  refine q0 _ ?_
  clear q0 Q0
  simp only [go_sem]
  simp only [↓bO, go_sem, seval, Sch.cells]
  refine y0 _ ?_
  try clear y0 Y0
  refine AWp_ret ?_
  try simp only [thenQ, blockQ, noGotoQ, retQ, aRes, tupOf, bS, bA]
  exact Le.refl _
theorem Rigid2_pure (v : Int) : APure Tryd.prog 73 [.v (.int .i64 v)] (.v (.bool true)) := by
  refine APure.mkL (.cons (.v _) .nil) (.v _) ?_
  refine ACalls_intro Tryd.func73 (by kernel_rfl) rfl (by rw [Tryd.ntmps73]; simp) (fun hm => ?_)
  simp only [Tryd.ntmps73, Tryd.results73, List.length_cons, List.length_nil, Nat.reduceAdd, Nat.reduceSub, List.replicate_succ, List.replicate_zero, List.cons_append, List.nil_append]
  iterate 2 (refine AWp_seqK fun Y0 y0 => ?_; refine AWp_region ?_; simp only [↓bO, go_sem, seval]; refine y0 _ ?_; (try clear y0 Y0))
  refine AWp_ret ?_
  try simp only [thenQ, blockQ, noGotoQ, retQ, aRes, tupOf, bS, bA]
  exact Le.refl _
theorem rigid_pure (s : Sch) (t : Ty) (hv : s.vs.length ≤ 1048576) (hc : s.t.cnt ≤ 1048576) (ht : t.cnt ≤ 1048576) : APure Tryd.prog 46 [.agg s.cells, .agg t.cells] (.tup [.agg (s.t.mark fun v => !decide (v ∈ s.vs)).cells, .agg (t.mark fun _ => true).cells]) := by
  refine APure.mkL (.cons Sch.agg (.cons (Ty.dataAgg _) .nil)) ((.tup (.cons (Ty.dataAgg _) (.cons (Ty.dataAgg _) .nil)))) ?_
  refine ACalls_intro Tryd.func46 (by kernel_rfl) rfl (by rw [Tryd.ntmps46]; simp) (fun hm => ?_)
  simp only [Tryd.ntmps46, Tryd.results46, List.length_cons, List.length_nil, Nat.reduceAdd, Nat.reduceSub, List.replicate_succ, List.replicate_zero, List.cons_append, List.nil_append]
  refine AWp_joinZ (mB 12 60) ([(2, .eptr s.cells), (3, .eptr t.cells), (4, .ptr 2 0), (5, .ptr 3 0)]) [(3, .cells 25 [.v (.int .i64 0), .v (.int .i64 0), .v (.slice none 0 0)]), (2, .cells 25 [.v (.int .i64 0), .v (.int .i64 0), .v (.slice none 0 0)])] 4 (True) ?_ (fun hC => ?_)
  ·
   refine AWp_region ?_
   iterate 3 (refine aops_chunk 1 fun Q0 q0 => ?_; simp only [↓bO, go_sem, seval, Sch.cells]; refine q0 _ ?_; clear q0 Q0; simp only [go_sem])
   simp only [↓bO, go_sem, seval, Sch.cells]
   try simp only [maskL, setsL, putsO, putO, mB, List.set_cons_zero, List.set_cons_succ, seval]
   first | refine ⟨trivial, ?_⟩ | skip
   refine Weak.freeze ?_ ⟨rfl, rfl, trivial⟩ (by first | omega | (simp only; omega)) (by first | omega | (simp only; omega)) ?_ ?_
   · repeat' first | trivial | exact .inr ⟨_, _, _, rfl, rfl, rfl, rfl⟩ | exact .inl (.refl _) | exact .inl (.any _) | (refine ⟨?_, ?_⟩)
   · repeat' first | exact trivial | exact .any _ | exact .v _ _ | exact .ptr (by omega) | exact Und.data (dataInts _) | exact Und.data Sch.eptr | exact Und.data Sch.agg | exact Und.data (Ty.dataSl _) | exact Und.data (.eptr (Ty.data _)) | exact Und.data (.eptr (.cons (dataInts _) .nil)) | exact .own (by omega) | (refine ⟨?_, ?_⟩)
   · repeat' first | exact trivial | (with_reducible omega) | exact Und.rowI (iD_data _) | exact UndL.data (Ty.data _) | exact UndL.data (Sch.data _) | exact .v _ _ | (refine ⟨?_, ?_⟩)
  simp only [maskL, setsL, putsO, putO, mB, List.set_cons_zero, List.set_cons_succ, seval]
  refine AWp_seqK fun Y0 y0 => ?_
  refine AWp_drawK 6 mixed (by kernel_rfl) fun J0 j0 => ?_
  iterate 3 (simp only [go_sem]; refine dRun_chunk 1 fun Q0 q0 => ?_; simp only [↓dRun, ↓dOp, ↓bO, go_sem, seval, Sch.cells]; refine q0 _ ?_; clear q0 Q0)
  simp only [go_sem]
  refine dRun_chunk 1 fun Q0 q0 => ?_
  simp only [↓dRun, ↓dOp, ↓bO, go_sem, seval, Sch.cells]
  refine ⟨_, mark_pure s.t 72 [.eptr s.cells] (fun v => !decide (v ∈ s.vs)) (.cons Sch.eptr .nil) (fun v => Rigid1_pure s (by omega) v) (by omega), ?_⟩
  try simp only [bS, bA, thenQ, blockQ, noGotoQ]
  refine q0 _ ?_
  clear q0 Q0
  simp only [go_sem]
  refine dRun_chunk 1 fun Q0 q0 => ?_
  simp only [↓dRun, ↓dOp, ↓bO, go_sem, seval, Sch.cells]
  refine q0 _ ?_
  clear q0 Q0
  simp only [go_sem]
  simp only [↓dRun, ↓dOp, ↓bO, go_sem, seval, Sch.cells]
  refine ⟨_, mark_pure t 73 [] (fun _ => true) (fun _ h => by cases h) (fun v => Rigid2_pure v) (by omega), ?_⟩
  try simp only [bS, bA, thenQ, blockQ, noGotoQ]
  refine j0 _ ?_
  clear j0 J0
  simp only [go_sem]
  refine aops_chunk 1 fun Q0 q0 => ?_
  simp only [↓bO, go_sem, seval, Sch.cells]
  refine q0 _ ?_
  clear q0 Q0
  simp only [go_sem]
  simp only [↓bO, go_sem, seval, Sch.cells]
  refine y0 _ ?_
  try clear y0 Y0
  refine AWp_ret ?_
  try simp only [thenQ, blockQ, noGotoQ, retQ, aRes, tupOf, bS, bA, aLoad, getO, pack, bL, Nat.reduceAdd, Nat.reduceLeDiff, Nat.reduceEqDiff, ↓reduceIte, ti25, tyX, Sch.cells, List.length_map]
  exact Le.refl _
theorem Ty.covL_append : ∀ (ps qs ps' qs' : List Ty) (m : List (Int × Ty)), ps.length = qs.length → Ty.covL (ps ++ ps') (qs ++ qs') m = if (Ty.covL ps qs m).1 then Ty.covL ps' qs' (Ty.covL ps qs m).2 else (false, (Ty.covL ps qs m).2)
  | [], [], ps', qs', m, _ => by simp [Ty.covL]
  | [], _ :: _, _, _, _, h => by simp at h
  | _ :: _, [], _, _, _, h => by simp at h
  | p :: ps, q :: qs, ps', qs', m, h => by
    simp only [List.cons_append, Ty.covL]
    by_cases h1 : (p.cov q m).1
    · simp only [h1, if_true]; exact Ty.covL_append ps qs ps' qs' _ (by simpa using h)
    · simp [h1]
theorem Ty.covL_one (p q : Ty) (m : List (Int × Ty)) : Ty.covL [p] [q] m = p.cov q m := by
  rw [Ty.covL]
  split
  · rename_i h; rw [Ty.covL]; exact Prod.ext h.symm rfl
  · rename_i h; exact Prod.ext (by simpa using (Bool.not_eq_true _ ▸ h : (p.cov q m).1 = false).symm) rfl
theorem Ty.covL_step {ps qs : List Ty} {s : Nat} {p q : Ty} (hp : ps[s]? = some p) (hq : qs[s]? = some q) (hl : ps.length = qs.length) (m : List (Int × Ty)) (h : (Ty.covL (ps.take s) (qs.take s) m).1 = true) :
    Ty.covL (ps.take (s + 1)) (qs.take (s + 1)) m = p.cov q (Ty.covL (ps.take s) (qs.take s) m).2 := by
  rw [List.take_add_one, List.take_add_one, hp, hq, Ty.covL_append _ _ _ _ _ (by simp [hl]), if_pos h]
  exact Ty.covL_one p q _
theorem Ty.covL_stop {ps qs : List Ty} {s : Nat} {p q : Ty} (hp : ps[s]? = some p) (hq : qs[s]? = some q) (hl : ps.length = qs.length) (m : List (Int × Ty)) (h : (Ty.covL (ps.take s) (qs.take s) m).1 = true)
    (h2 : (p.cov q (Ty.covL (ps.take s) (qs.take s) m).2).1 = false) : Ty.covL ps qs m = (false, (p.cov q (Ty.covL (ps.take s) (qs.take s) m).2).2) := by
  have e := Ty.covL_step hp hq hl m h
  conv => lhs; rw [← List.take_append_drop (s + 1) ps, ← List.take_append_drop (s + 1) qs]
  rw [Ty.covL_append _ _ _ _ _ (by simp [hl]), e, if_neg (by rw [h2]; simp)]
theorem cov_calls : ∀ (T U : Ty) (m : List (Int × Ty)), MCalls 47 [.map 0, .agg T.cells, .agg U.cells] m (.v (.bool (T.cov U m).1)) (T.cov U m).2 := by
  refine Ty.ind fun T ih U m => ?_
  refine ACalls.clean (C := fun r os => r = _ ∧ os = _) ?_
  refine ACalls_intro Tryd.func47 (by kernel_rfl) rfl (by rw [Tryd.ntmps47]; simp) (fun hm => ?_)
  simp only [Tryd.ntmps47, Tryd.results47, List.length_cons, List.length_nil, Nat.reduceAdd, Nat.reduceSub, List.replicate_succ, List.replicate_zero, List.cons_append, List.nil_append]
  obtain ⟨cs, hcs, hl3, hone, htk, hcx⟩ := lookTy m T.n
  have hm1 := hm.wide (t := T) (by simp)
  have hm2 := hm1.len
  have mSetU := mSet m T.n U
  rw [Ty.cells_eq U] at mSetU
  simp only [enumO, Nat.reduceAdd]
  simp only [Ty.cells_eq T, Ty.cells_eq U, List.cons_append, List.nil_append]
  refine AWp_seqK fun Y0 y0 => ?_
  refine AWp_region ?_
  refine aops_chunk 2 fun Q0 q0 => ?_
  simp only [↓bO, go_sem, seval, ↓valAV_ty, hcs, hl3, hone, htk, mSome, mSetU]
  refine q0 _ ?_
  clear q0 Q0
  simp only [go_sem]
  simp only [↓bO, go_sem, seval, ↓valAV_ty, hcs, hl3, hone, htk, mSome, mSetU]
  refine y0 _ ?_
  try clear y0 Y0
  refine AWp_seqK fun Y0 y0 => ?_
  refine AWp_seqK fun Y1 y1 => ?_
  refine AWp_region ?_
  refine aops_chunk 2 fun Q0 q0 => ?_
  simp only [↓bO, go_sem, seval, ↓valAV_ty, hcs, hl3, hone, htk, mSome, mSetU]
  refine q0 _ ?_
  clear q0 Q0
  simp only [go_sem]
  simp only [↓bO, go_sem, seval, ↓valAV_ty, hcs, hl3, hone, htk, mSome, mSetU]
  refine y1 _ ?_
  try clear y1 Y1
  refine AWp_cond rfl (fun hb12 => ?_) (fun hb12 => ?_)
  ·
   have hk1 : T.k = 1 := by simpa using hb12
   refine AWp_seqK fun Y1 y1 => ?_
   refine AWp_region ?_
   iterate 4 (refine aops_chunk 2 fun Q0 q0 => ?_; simp only [↓bO, go_sem, seval, ↓valAV_ty, hcs, hl3, hone, htk, mSome, mSetU]; refine q0 _ ?_; clear q0 Q0; simp only [go_sem])
   simp only [↓bO, go_sem, seval, ↓valAV_ty, hcs, hl3, hone, htk, mSome, mSetU]
   refine y1 _ ?_
   try clear y1 Y1
   refine AWp_seqK fun Y1 y1 => ?_
   refine AWp_region ?_
   iterate 2 (refine aops_chunk 2 fun Q0 q0 => ?_; simp only [↓bO, go_sem, seval, ↓valAV_ty, hcs, hl3, hone, htk, mSome, mSetU]; refine q0 _ ?_; clear q0 Q0; simp only [go_sem])
   simp only [↓bO, go_sem, seval, ↓valAV_ty, hcs, hl3, hone, htk, mSome, mSetU]
   refine y1 _ ?_
   try clear y1 Y1
   refine AWp_seqK fun Y1 y1 => ?_
   refine AWp_region ?_
   refine aops_chunk 2 fun Q0 q0 => ?_
   simp only [↓bO, go_sem, seval, ↓valAV_ty, hcs, hl3, hone, htk, mSome, mSetU]
   refine q0 _ ?_
   clear q0 Q0
   simp only [go_sem]
   refine aops_chunk 1 fun Q0 q0 => ?_
   simp only [↓bO, go_sem, seval, ↓valAV_ty, hcs, hl3, hone, htk, mSome, mSetU]
   refine q0 _ ?_
   clear q0 Q0
   simp only [go_sem]
   refine aops_case 26 rfl (fun hc26 => ?_) (fun hc26 => ?_)
   ·
    simp only [List.set_cons_zero, List.set_cons_succ]
    have hS : (pfind m T.n).isSome = false := by simpa using hc26
    have hfn : pfind m T.n = none := by cases hv : pfind m T.n with | none => rfl | some y => rw [hv] at hS; cases hS
    try simp only [hS]
    iterate 2 (refine aops_chunk 2 fun Q0 q0 => ?_; simp only [↓bO, go_sem, seval, ↓valAV_ty, hcs, hl3, hone, htk, mSome, mSetU]; refine q0 _ ?_; clear q0 Q0; simp only [go_sem])
    simp only [↓bO, go_sem, seval, ↓valAV_ty, hcs, hl3, hone, htk, mSome, mSetU]
    refine y1 _ ?_
    try clear y1 Y1
    refine AWp_ret ?_
    try simp only [thenQ, blockQ, noGotoQ, retQ, aRes, tupOf, bS, bA]
    have hg : T.cov U m = (true, pset m T.n U) := by rw [Ty.cov_var hk1, hfn]
    rw [hg]
    refine ⟨_, enumO 0 [.map (mTC (pset m T.n U))], ⟨rfl, rfl⟩, .v _ _, mUnd (by omega) _, ?_, ?_, by omega⟩
    ·
     refine Le.of_eq ?_
     rfl
    · first | (refine ⟨3, rfl, rfl⟩) | (refine ⟨2, rfl, rfl⟩) | (refine ⟨4, rfl, rfl⟩)
   ·
    simp only [List.set_cons_zero, List.set_cons_succ]
    have hS : (pfind m T.n).isSome = true := by simpa using hc26
    obtain ⟨x, hfx⟩ := Option.isSome_iff_exists.1 hS
    have hce := hcx x hfx
    subst hce
    try simp only [hS]
    refine aops_chunk 2 fun Q0 q0 => ?_
    simp only [↓bO, go_sem, seval, ↓valAV_ty, hcs, hl3, hone, htk, mSome, mSetU]
    refine q0 _ ?_
    clear q0 Q0
    simp only [go_sem]
    refine aops_chunk 1 fun Q0 q0 => ?_
    simp only [↓bO, go_sem, seval, ↓valAV_ty, hcs, hl3, hone, htk, mSome, mSetU]
    refine APure.call (by have h9 := TSame_pure x U; rw [Ty.cells_eq U] at h9; exact h9) ?_
    try simp only [bS, bA, thenQ, blockQ, noGotoQ]
    refine q0 _ ?_
    clear q0 Q0
    simp only [go_sem]
    simp only [↓bO, go_sem, seval, ↓valAV_ty, hcs, hl3, hone, htk, mSome, mSetU]
    refine y1 _ ?_
    try clear y1 Y1
    refine AWp_ret ?_
    try simp only [thenQ, blockQ, noGotoQ, retQ, aRes, tupOf, bS, bA]
    have hg : T.cov U m = (x.same U, pset m T.n U) := by rw [Ty.cov_var hk1, hfx]
    rw [hg]
    refine ⟨_, enumO 0 [.map (mTC (pset m T.n U))], ⟨rfl, rfl⟩, .v _ _, mUnd (by omega) _, ?_, ?_, by omega⟩
    ·
     refine Le.of_eq ?_
     rfl
    · first | (refine ⟨3, rfl, rfl⟩) | (refine ⟨2, rfl, rfl⟩) | (refine ⟨4, rfl, rfl⟩)
  ·
   have hk1 : ¬ T.k = 1 := by simpa using hb12
   refine AWp_skip ?_
   try simp only [thenQ, blockQ, noGotoQ]
   refine y0 _ ?_
   try clear y0 Y0
   refine AWp_seqK fun Y0 y0 => ?_
   refine AWp_seqK fun Y1 y1 => ?_
   refine AWp_region ?_
   iterate 3 (refine aops_chunk 2 fun Q0 q0 => ?_; simp only [↓bO, go_sem, seval, ↓valAV_ty, hcs, hl3, hone, htk, mSome, mSetU]; refine q0 _ ?_; clear q0 Q0; simp only [go_sem])
   refine aops_case 36 rfl (fun hc36 => ?_) (fun hc36 => ?_)
   ·
    simp only [List.set_cons_zero, List.set_cons_succ]
    have hno : ¬ (T.k = U.k ∧ T.n = U.n ∧ T.ps.length = U.ps.length) := fun h9 => by have h8 := h9.1; simp at hc36; exact hc36 h8
    iterate 7 (refine aops_chunk 2 fun Q0 q0 => ?_; simp only [↓bO, go_sem, seval, ↓valAV_ty, hcs, hl3, hone, htk, mSome, mSetU]; refine q0 _ ?_; clear q0 Q0; simp only [go_sem])
    simp only [↓bO, go_sem, seval, ↓valAV_ty, hcs, hl3, hone, htk, mSome, mSetU]
    refine y1 _ ?_
    try clear y1 Y1
    refine AWp_cond (b := true) (by first | exact rfl | exact congrArg (fun b => AV.v (.bool b)) hb51) (fun _ => ?_) (fun h => (by cases h))
    refine AWp_seqK fun Y1 y1 => ?_
    refine AWp_region ?_
    simp only [↓bO, go_sem, seval, ↓valAV_ty, hcs, hl3, hone, htk, mSome, mSetU]
    refine y1 _ ?_
    try clear y1 Y1
    refine AWp_ret ?_
    try simp only [thenQ, blockQ, noGotoQ, retQ, aRes, tupOf, bS, bA]
    have hg : T.cov U m = (false, m) := Ty.cov_no hk1 hno
    rw [hg]
    refine ⟨_, enumO 0 [.map (mTC (m))], ⟨rfl, rfl⟩, .v _ _, mUnd (by omega) _, ?_, ?_, by omega⟩
    ·
     refine Le.of_eq ?_
     rfl
    · first | (refine ⟨2, rfl, rfl⟩)
   ·
    simp only [List.set_cons_zero, List.set_cons_succ]
    have hkk : T.k = U.k := by simpa using hc36
    iterate 3 (refine aops_chunk 2 fun Q0 q0 => ?_; simp only [↓bO, go_sem, seval, ↓valAV_ty, hcs, hl3, hone, htk, mSome, mSetU]; refine q0 _ ?_; clear q0 Q0; simp only [go_sem])
    refine aops_chunk 1 fun Q0 q0 => ?_
    simp only [↓bO, go_sem, seval, ↓valAV_ty, hcs, hl3, hone, htk, mSome, mSetU]
    refine q0 _ ?_
    clear q0 Q0
    simp only [go_sem]
    refine aops_case 43 rfl (fun hc43 => ?_) (fun hc43 => ?_)
    ·
     simp only [List.set_cons_zero, List.set_cons_succ]
     have hno : ¬ (T.k = U.k ∧ T.n = U.n ∧ T.ps.length = U.ps.length) := fun h9 => by have h8 := h9.2.1; simp at hc43; exact hc43 h8
     iterate 3 (refine aops_chunk 2 fun Q0 q0 => ?_; simp only [↓bO, go_sem, seval, ↓valAV_ty, hcs, hl3, hone, htk, mSome, mSetU]; refine q0 _ ?_; clear q0 Q0; simp only [go_sem])
     simp only [↓bO, go_sem, seval, ↓valAV_ty, hcs, hl3, hone, htk, mSome, mSetU]
     refine y1 _ ?_
     try clear y1 Y1
     refine AWp_cond (b := true) (by first | exact rfl | exact congrArg (fun b => AV.v (.bool b)) hb51) (fun _ => ?_) (fun h => (by cases h))
     refine AWp_seqK fun Y1 y1 => ?_
     refine AWp_region ?_
     simp only [↓bO, go_sem, seval, ↓valAV_ty, hcs, hl3, hone, htk, mSome, mSetU]
     refine y1 _ ?_
     try clear y1 Y1
     refine AWp_ret ?_
     try simp only [thenQ, blockQ, noGotoQ, retQ, aRes, tupOf, bS, bA]
     have hg : T.cov U m = (false, m) := Ty.cov_no hk1 hno
     rw [hg]
     refine ⟨_, enumO 0 [.map (mTC (m))], ⟨rfl, rfl⟩, .v _ _, mUnd (by omega) _, ?_, ?_, by omega⟩
     ·
      refine Le.of_eq ?_
      rfl
     · first | (refine ⟨2, rfl, rfl⟩)
    ·
     simp only [List.set_cons_zero, List.set_cons_succ]
     have hnn : T.n = U.n := by simpa using hc43
     iterate 3 (refine aops_chunk 2 fun Q0 q0 => ?_; simp only [↓bO, go_sem, seval, ↓valAV_ty, hcs, hl3, hone, htk, mSome, mSetU]; refine q0 _ ?_; clear q0 Q0; simp only [go_sem])
     simp only [↓bO, go_sem, seval, ↓valAV_ty, hcs, hl3, hone, htk, mSome, mSetU]
     refine y1 _ ?_
     try clear y1 Y1
     refine AWp_cond rfl (fun hb51 => ?_) (fun hb51 => ?_)
     ·
      have hno : ¬ (T.k = U.k ∧ T.n = U.n ∧ T.ps.length = U.ps.length) := fun h9 => by have := h9.2.2; simp at hb51; omega
      refine AWp_seqK fun Y1 y1 => ?_
      refine AWp_region ?_
      simp only [↓bO, go_sem, seval, ↓valAV_ty, hcs, hl3, hone, htk, mSome, mSetU]
      refine y1 _ ?_
      try clear y1 Y1
      refine AWp_ret ?_
      try simp only [thenQ, blockQ, noGotoQ, retQ, aRes, tupOf, bS, bA]
      have hg : T.cov U m = (false, m) := Ty.cov_no hk1 hno
      rw [hg]
      refine ⟨_, enumO 0 [.map (mTC (m))], ⟨rfl, rfl⟩, .v _ _, mUnd (by omega) _, ?_, ?_, by omega⟩
      ·
       refine Le.of_eq ?_
       rfl
      · first | (refine ⟨2, rfl, rfl⟩)
     ·
      have hll : T.ps.length = U.ps.length := by simp at hb51; omega
      refine AWp_skip ?_
      try simp only [thenQ, blockQ, noGotoQ]
      refine y0 _ ?_
      try clear y0 Y0
      refine AWp_seqK fun Y0 y0 => ?_
      refine AWp_seqK fun Y1 y1 => ?_
      refine AWp_region ?_
      refine aops_chunk 2 fun Q0 q0 => ?_
      simp only [↓bO, go_sem, seval, ↓valAV_ty, hcs, hl3, hone, htk, mSome, mSetU]
      refine q0 _ ?_
      clear q0 Q0
      simp only [go_sem]
      simp only [↓bO, go_sem, seval, ↓valAV_ty, hcs, hl3, hone, htk, mSome, mSetU]
      refine y1 _ ?_
      try clear y1 Y1
      refine AWp_block ?_
      refine AWp_loopM (σ := Nat) (mB 72 54043195528446001) (fun s => s ≤ T.ps.length ∧ (Ty.covL (T.ps.take s) (U.ps.take s) m).1 = true) (fun s => [(55, .v (.int .i64 (s : Int)))]) (fun s => [(0, .map (mTC (Ty.covL (T.ps.take s) (U.ps.take s) m).2))]) (fun s => T.ps.length - s) 0 (⟨by omega, by simp [Ty.covL]⟩) ?_ (fun s hs => ?_)
      ·
       simp only [maskL, setsL, putsO, putO, mB, List.set_cons_zero, List.set_cons_succ, seval, bL, Ty.covL]
       exact Weak.mk (by simp only [go_sem, Le.refl, Le.any, Le.slNil, Int.natCast_add, Int.cast_ofNat_Int, Int.natCast_one]) (fun _ _ h => h) rfl rfl
      simp only [maskL, setsL, putsO, putO, mB, List.set_cons_zero, List.set_cons_succ, seval]
      refine AWp_seqK fun Y1 y1 => ?_
      refine AWp_region ?_
      simp only [↓bO, go_sem, seval, ↓valAV_ty, hcs, hl3, hone, htk, mSome, mSetU]
      refine y1 _ ?_
      try clear y1 Y1
      refine AWp_seqK fun Y1 y1 => ?_
      refine AWp_cond rfl (fun hb56 => ?_) (fun hb56 => ?_)
      ·
       have hk : s < T.ps.length := by (have h9 := hb56; simp at h9; omega)
       have hk2 : s < U.ps.length := by omega
       obtain ⟨p, hp⟩ : ∃ p, T.ps[s]? = some p := ⟨_, List.getElem?_eq_getElem hk⟩
       obtain ⟨q, hq⟩ : ∃ q, U.ps[s]? = some q := ⟨_, List.getElem?_eq_getElem hk2⟩
       have hst := Ty.covL_step hp hq hll m hs.2
       have hw : IntKind.i64.wrap ((s : Int) + 1) = (s : Int) + 1 := wrap_in (by omega) (by simp only [maxLen] at hm2; omega)
       refine AWp_skip ?_
       try simp only [thenQ, blockQ, noGotoQ]
       refine y1 _ ?_
       try clear y1 Y1
       refine AWp_seqK fun Y1 y1 => ?_
       refine AWp_block ?_
       refine AWp_seqK fun Y2 y2 => ?_
       refine AWp_region ?_
       simp only [↓bO, go_sem, seval, ↓valAV_ty, hcs, hl3, hone, htk, mSome, mSetU, hk, hk2, gM hp, gM hq, Int.natCast_add, hw, hst]
       refine y2 _ ?_
       try clear y2 Y2
       refine AWp_seqK fun Y2 y2 => ?_
       refine AWp_drawK 11 mixed (by kernel_rfl) fun J0 j0 => ?_
       iterate 5 (simp only [go_sem]; refine dRun_chunk 2 fun Q0 q0 => ?_; simp only [↓dRun, ↓dOp, ↓bO, go_sem, seval, ↓valAV_ty, hcs, hl3, hone, htk, mSome, mSetU, hk, hk2, gM hp, gM hq, Int.natCast_add, hw, hst]; refine q0 _ ?_; clear q0 Q0)
       simp only [go_sem]
       simp only [↓dRun, ↓dOp, ↓bO, go_sem, seval, ↓valAV_ty, hcs, hl3, hone, htk, mSome, mSetU, hk, hk2, gM hp, gM hq, Int.natCast_add, hw, hst]
       refine j0 _ ?_
       clear j0 J0
       simp only [go_sem]
       refine aops_chunk 1 fun Q0 q0 => ?_
       simp only [↓bO, go_sem, seval, ↓valAV_ty, hcs, hl3, hone, htk, mSome, mSetU, hk, hk2, gM hp, gM hq, Int.natCast_add, hw, hst]
       refine MCalls.at (ih p (List.mem_of_getElem? hp) q (Ty.covL (T.ps.take s) (U.ps.take s) m).2) (.cons (Ty.dataAgg p) (.cons (Ty.dataAgg q) .nil)) (.v _) (i := 0) rfl (by first | omega | (simp only; omega)) ?_
       simp only [putO, Nat.reduceEqDiff, ↓reduceIte]
       try simp only [bS, bA, thenQ, blockQ, noGotoQ]
       refine q0 _ ?_
       clear q0 Q0
       simp only [go_sem]
       simp only [↓bO, go_sem, seval, ↓valAV_ty, hcs, hl3, hone, htk, mSome, mSetU, hk, hk2, gM hp, gM hq, Int.natCast_add, hw, hst]
       refine y2 _ ?_
       try clear y2 Y2
       refine AWp_cond rfl (fun hb70 => ?_) (fun hb70 => ?_)
       ·
        refine AWp_seqK fun Y2 y2 => ?_
        refine AWp_region ?_
        simp only [↓bO, go_sem, seval, ↓valAV_ty, hcs, hl3, hone, htk, mSome, mSetU, hk, hk2, gM hp, gM hq, Int.natCast_add, hw, hst]
        refine y2 _ ?_
        try clear y2 Y2
        refine AWp_ret ?_
        try simp only [thenQ, blockQ, noGotoQ, retQ, aRes, tupOf, bS, bA]
        have hg : T.cov U m = (false, (p.cov q (Ty.covL (T.ps.take s) (U.ps.take s) m).2).2) := by rw [Ty.cov_more hk1 ⟨hkk, hnn, hll⟩]; exact Ty.covL_stop hp hq hll m hs.2 (by simpa using hb70)
        rw [hg]
        refine ⟨_, enumO 0 [.map (mTC ((p.cov q (Ty.covL (T.ps.take s) (U.ps.take s) m).2).2))], ⟨rfl, rfl⟩, .v _ _, mUnd (by omega) _, ?_, ?_, by omega⟩
        ·
         refine Le.of_eq ?_
         rfl
        · first | (refine ⟨2, rfl, rfl⟩)
       ·
        refine AWp_skip ?_
        try simp only [thenQ, blockQ, noGotoQ]
        refine y1 _ ?_
        try clear y1 Y1
        refine AWp_region ?_
        simp only [↓bO, go_sem, seval, ↓valAV_ty, hcs, hl3, hone, htk, mSome, mSetU, hk, hk2, gM hp, gM hq, Int.natCast_add, hw, hst]
        refine ⟨(s + 1), ⟨by omega, by rw [hst]; simpa using hb70⟩, by omega, ?_⟩
        simp only [maskL, setsL, putsO, putO, mB, List.set_cons_zero, List.set_cons_succ, seval, hk, hk2, gM hp, gM hq, Int.natCast_add, Int.natCast_one, hw, hst]
        exact Weak.mk (by simp only [go_sem, Le.refl, Le.any, Le.slNil, Int.natCast_add, Int.cast_ofNat_Int, Int.natCast_one]) (fun _ _ h => h) rfl rfl
      ·
       have hk : s = T.ps.length := by have := hs.1; simp at hb56; omega
       refine AWp_exit ?_
       simp only [thenQ, blockQ, noGotoQ, bA, Nat.reduceEqDiff, ↓reduceIte]
       refine y0 _ ?_
       try clear y0 Y0
       refine AWp_seqK fun Y0 y0 => ?_
       refine AWp_region ?_
       simp only [↓bO, go_sem, seval, ↓valAV_ty, hcs, hl3, hone, htk, mSome, mSetU]
       refine y0 _ ?_
       try clear y0 Y0
       refine AWp_ret ?_
       try simp only [thenQ, blockQ, noGotoQ, retQ, aRes, tupOf, bS, bA]
       have h8 := hs.2
       rw [hk, List.take_length, hll, List.take_length] at h8
       have hg : T.cov U m = (true, (Ty.covL T.ps U.ps m).2) := by rw [Ty.cov_more hk1 ⟨hkk, hnn, hll⟩]; exact Prod.ext h8 rfl
       rw [hg, hk, List.take_length, hll, List.take_length]
       refine ⟨_, enumO 0 [.map (mTC ((Ty.covL T.ps U.ps m).2))], ⟨rfl, rfl⟩, .v _ _, mUnd (by omega) _, ?_, ?_, by omega⟩
       ·
        refine Le.of_eq ?_
        rfl
       · first | (refine ⟨2, rfl, rfl⟩)
def Sch.rig (s : Sch) (v : Int) : Bool := !decide (v ∈ s.vs)
def instC (s : Sch) (t : Ty) : Bool := s.ok && t.right && (if s.free = [] then (s.t.match t []).1 else ((s.t.mark s.rig).cov (t.mark fun _ => true) []).1)
theorem instC_iff (s : Sch) (t : Ty) : instC s t = true ↔ s.ok = true ∧ t.right = true ∧ Inst s t := by
  unfold instC
  rw [Bool.and_eq_true, Bool.and_eq_true, and_assoc]
  constructor
  · rintro ⟨h1, h2, h3⟩
    refine ⟨h1, h2, ?_⟩
    split at h3
    · rename_i hf; exact (inst_match h1 hf h2).1 h3
    · exact (inst_cov h1 h2).1 h3
  · rintro ⟨h1, h2, h3⟩
    refine ⟨h1, h2, ?_⟩
    split
    · rename_i hf; exact (inst_match h1 hf h2).2 h3
    · exact (inst_cov h1 h2).2 h3
def moreC (a b : Sch) : Bool := a.ok && b.ok && instC a b.t && !(a.free.any fun v => decide (v ∈ b.vs))
theorem SClose_pure (t : Ty) (ar : List Ty) (hc : t.cnt ≤ 1048576) (har : Ty.cntL ar ≤ 1048576) : APure Tryd.prog 10 [.agg t.cells, .sl 3 (ar.map Ty.cells)] (.agg (closeS t ar).cells) := by
  refine APure.mkL (.cons (Ty.dataAgg _) (.cons (Ty.dataSl _) .nil)) (Sch.agg) ?_
  refine ACalls_intro Tryd.func10 (by kernel_rfl) rfl (by rw [Tryd.ntmps10]; simp) (fun hm => ?_)
  simp only [Tryd.ntmps10, Tryd.results10, List.length_cons, List.length_nil, Nat.reduceAdd, Nat.reduceSub, List.replicate_succ, List.replicate_zero, List.cons_append, List.nil_append]
  have hrl := Ty.rvarsL_len ar []
  have htl := Ty.rvarsL_len [t] []
  simp only [List.length_nil, Ty.cntL] at hrl htl
  refine AWp_joinZ (mB 20 22) ([(2, .eptr t.cells), (4, .ptr 1 0)]) [(1, .cells 31 [.v (.slice none 0 0), .v (.int .i64 0), .v (.int .i64 0), .v (.slice none 0 0)])] 2 (True) ?_ (fun hC => ?_)
  ·
   refine AWp_region ?_
   refine aops_chunk 1 fun Q0 q0 => ?_
   simp only [↓bO, go_sem, seval, Sch.cells]
   refine q0 _ ?_
   clear q0 Q0
   simp only [go_sem]
   simp only [↓bO, go_sem, seval, Sch.cells]
   try simp only [maskL, setsL, putsO, putO, mB, List.set_cons_zero, List.set_cons_succ, seval]
   first | refine ⟨trivial, ?_⟩ | skip
   refine Weak.freeze ?_ ⟨rfl, trivial⟩ (by first | omega | (simp only; omega)) (by first | omega | (simp only; omega)) ?_ ?_
   · repeat' first | trivial | exact .inr ⟨_, _, _, rfl, rfl, rfl, rfl⟩ | exact .inl (.refl _) | exact .inl (.any _) | (refine ⟨?_, ?_⟩)
   · repeat' first | exact trivial | exact .any _ | exact .v _ _ | exact .ptr (by omega) | exact Und.data (dataInts _) | exact Und.data Sch.eptr | exact Und.data Sch.agg | exact Und.data (Ty.dataSl _) | exact Und.data (.eptr (Ty.data _)) | exact Und.data (.eptr (.cons (dataInts _) .nil)) | exact .own (by omega) | (refine ⟨?_, ?_⟩)
   · repeat' first | exact trivial | (with_reducible omega) | exact Und.rowI (iD_data _) | exact UndL.data (Ty.data _) | exact UndL.data (Sch.data _) | exact .v _ _ | (refine ⟨?_, ?_⟩)
  simp only [maskL, setsL, putsO, putO, mB, List.set_cons_zero, List.set_cons_succ, seval]
  refine AWp_seqK fun Y0 y0 => ?_
  refine AWp_seqK fun Y1 y1 => ?_
  refine AWp_region ?_
  refine aops_chunk 1 fun Q0 q0 => ?_
  simp only [↓bO, go_sem, seval, Sch.cells]
  refine q0 _ ?_
  clear q0 Q0
  simp only [go_sem]
  refine aops_chunk 1 fun Q0 q0 => ?_
  simp only [↓bO, go_sem, seval, Sch.cells]
  refine APure.call (Right_pure t) ?_
  try simp only [bS, bA, thenQ, blockQ, noGotoQ]
  refine q0 _ ?_
  clear q0 Q0
  simp only [go_sem]
  simp only [↓bO, go_sem, seval, Sch.cells]
  refine y1 _ ?_
  try clear y1 Y1
  refine AWp_cond rfl (fun hb8 => ?_) (fun hb8 => ?_)
  ·
   have hr : t.right = false := by simpa using hb8
   refine AWp_seqK fun Y1 y1 => ?_
   refine AWp_region ?_
   refine aops_chunk 1 fun Q0 q0 => ?_
   simp only [↓bO, go_sem, seval, Sch.cells]
   refine q0 _ ?_
   clear q0 Q0
   simp only [go_sem]
   simp only [↓bO, go_sem, seval, Sch.cells]
   refine y1 _ ?_
   try clear y1 Y1
   refine AWp_ret ?_
   try simp only [thenQ, blockQ, noGotoQ, retQ, aRes, tupOf, bS, bA, aLoad, getO, pack, bL, Nat.reduceAdd, Nat.reduceLeDiff, Nat.reduceEqDiff, ↓reduceIte, ti31, tyX, Sch.cells, List.length_map]
   unfold closeS
   rw [hr, if_neg (by decide)]
   exact zSch_le
  ·
   have hr : t.right = true := by simpa using hb8
   refine AWp_skip ?_
   try simp only [thenQ, blockQ, noGotoQ]
   refine y0 _ ?_
   try clear y0 Y0
   refine AWp_joinZ (mB 20 52) ([(5, .eptr [.sl 1 ((Ty.rvarsL ar []).map intC)])]) [(1, .cells 31 [.v (.slice none 0 0), .v (.int .i64 0), .v (.int .i64 0), .v (.slice none 0 0)])] 2 (True) ?_ (fun hC => ?_)
   ·
    refine AWp_region ?_
    refine aops_chunk 1 fun Q0 q0 => ?_
    simp only [↓bO, go_sem, seval, Sch.cells]
    refine q0 _ ?_
    clear q0 Q0
    simp only [go_sem]
    refine aops_chunk 1 fun Q0 q0 => ?_
    simp only [↓bO, go_sem, seval, Sch.cells]
    refine APure.call (Vars_pure ar (by omega)) ?_
    try simp only [bS, bA, thenQ, blockQ, noGotoQ]
    refine q0 _ ?_
    clear q0 Q0
    simp only [go_sem]
    refine aops_chunk 1 fun Q0 q0 => ?_
    simp only [↓bO, go_sem, seval, Sch.cells]
    refine q0 _ ?_
    clear q0 Q0
    simp only [go_sem]
    simp only [↓bO, go_sem, seval, Sch.cells]
    try simp only [maskL, setsL, putsO, putO, mB, List.set_cons_zero, List.set_cons_succ, seval]
    first | refine ⟨trivial, ?_⟩ | skip
    refine Weak.freeze ?_ ⟨rfl, trivial⟩ (by first | omega | (simp only; omega)) (by first | omega | (simp only; omega)) ?_ ?_
    · repeat' first | trivial | exact .inr ⟨_, _, _, rfl, rfl, rfl, rfl⟩ | exact .inl (.refl _) | exact .inl (.any _) | (refine ⟨?_, ?_⟩)
    · repeat' first | exact trivial | exact .any _ | exact .v _ _ | exact .ptr (by omega) | exact Und.data (dataInts _) | exact Und.data Sch.eptr | exact Und.data Sch.agg | exact Und.data (Ty.dataSl _) | exact Und.data (.eptr (Ty.data _)) | exact Und.data (.eptr (.cons (dataInts _) .nil)) | exact .own (by omega) | (refine ⟨?_, ?_⟩)
    · repeat' first | exact trivial | (with_reducible omega) | exact Und.rowI (iD_data _) | exact UndL.data (Ty.data _) | exact UndL.data (Sch.data _) | exact .v _ _ | (refine ⟨?_, ?_⟩)
   simp only [maskL, setsL, putsO, putO, mB, List.set_cons_zero, List.set_cons_succ, seval]
   refine AWp_seqK fun Y0 y0 => ?_
   refine NAny_start 9 [2, 5] rfl mixed ?_
   dsimp only
   refine NAny_takeK 0 rfl (by kernel_rfl) (by kernel_rfl) (by kernel_rfl) (fun _ _ h => h) (by kernel_rfl) (fun d h => by cases h; rfl) (by kernel_rfl) (G' := [12, 2, 5]) (by kernel_rfl) fun Q0 q0 => ?_
   simp only [↓bO, go_sem, seval, nHead, isE, isSE, isV, Sch.cells]
   refine q0 _ ?_
   clear q0 Q0
   refine NAny_takeK 5 rfl (by kernel_rfl) (by kernel_rfl) (by kernel_rfl) (fun _ _ h => h) (by kernel_rfl) (fun d h => by cases h; rfl) (by kernel_rfl) (G' := [17, 12, 2, 5]) (by kernel_rfl) fun Q0 q0 => ?_
   simp only [↓bO, go_sem, seval, nHead, isE, isSE, isV, Sch.cells]
   refine q0 _ ?_
   clear q0 Q0
   refine NAny_all2 (i := 1) (j := 3) (by kernel_rfl) rfl rfl (fun d h => by cases h; rfl) (fun d h => by cases h; rfl) ?_ ?_
   ·
    refine aAt_op rfl rfl fun Q0 q0 => ?_
    simp only [↓bO, go_sem, seval, ↓bs1_1, ↓bs1_2, ↓bs1_3, ↓bs1_4, ↓bs1_5, ↓bs1_6, ↓bs1_7, ↓bs1_8, ↓bs1_9, ↓bs1_10, ↓bs1_11, ↓bs1_12, Sch.cells]
    refine q0 _ ⟨⟨rfl, rfl, rfl, rfl, trivial⟩, ?_⟩
    clear q0 Q0
    refine NAny_all2 (i := 2) (j := 3) (by kernel_rfl) rfl rfl (fun d h => by cases h; rfl) (fun d h => by cases h; rfl) ?_ ?_
    ·
     refine aAt_op rfl rfl fun Q0 q0 => ?_
     simp only [↓bO, go_sem, seval, Sch.cells]
     refine ACalls.fresh (R' := .own 2 (Ty.rvarsL [t] []).length) (os1' := [(2, .row 3 1 ((Ty.rvarsL [t] []).map intC))]) (OVars_calls [t] (by simp only [Ty.cntL]; omega)) (.cons (show Data (.sl 3 [t.cells]) from Ty.dataSl [t]) .nil) (.own rfl) (by simp) ⟨rfl, .row (iD_data _), trivial⟩ ?_
     simp only [List.cons_append, List.nil_append]
     try simp only [bS, bA]
     refine q0 _ ⟨⟨rfl, rfl, rfl, rfl, trivial⟩, ?_⟩
     clear q0 Q0
     refine NAny_all1 (i := 3) (by kernel_rfl) rfl (fun d h => by cases h; rfl) ?_
     refine aAt_op rfl rfl fun Q0 q0 => ?_
     simp only [↓bO, go_sem, seval, Sch.cells]
     refine q0 _ ⟨⟨rfl, rfl, rfl, rfl, trivial⟩, ?_⟩
     clear q0 Q0
     refine NAny_all1 (i := 4) (by kernel_rfl) rfl (fun d h => by cases h; rfl) ?_
     refine aAt_op rfl rfl fun Q0 q0 => ?_
     simp only [↓bO, go_sem, seval, Sch.cells]
     refine ACalls.eats (DelF_calls (Ty.rvarsL [t] []) 35 [.eptr [.sl 1 ((Ty.rvarsL ar []).map intC)]] (fun v => decide (v ∈ (Ty.rvarsL ar []))) (by omega) (.cons (.eptr (.cons (dataInts _) .nil)) .nil) (fun v _ => Close1_pure (Ty.rvarsL ar []) v (by omega))) (by first | omega | (simp only; omega)) ⟨.own rfl, .data (.clo (.cons (.eptr (.cons (dataInts _) .nil)) .nil)), trivial⟩ (dataInts _) rfl (.row (iD_data _)) ?_
     simp only [delO, List.filter_cons, List.filter_nil, Nat.reduceBEq, Bool.not_true, Bool.not_false, ↓reduceIte, Bool.false_eq_true]
     try simp only [bS, bA]
     refine q0 _ ⟨⟨rfl, rfl, rfl, rfl, trivial⟩, ?_⟩
     clear q0 Q0
     refine NAny_all1 (i := 6) (by kernel_rfl) rfl (fun d h => by cases h; rfl) ?_
     refine aAt_op rfl rfl fun Q0 q0 => ?_
     simp only [↓bO, go_sem, seval, Sch.cells]
     refine APure.call (Copy_pure t (by omega)) ?_
     try simp only [bS, bA]
     refine q0 _ ⟨⟨rfl, rfl, rfl, rfl, trivial⟩, ?_⟩
     clear q0 Q0
     refine NAny_all1 (i := 7) (by kernel_rfl) rfl (fun d h => by cases h; rfl) ?_
     refine aAt_op rfl rfl fun Q0 q0 => ?_
     simp only [↓bO, go_sem, seval, Sch.cells]
     refine q0 _ ⟨⟨rfl, rfl, rfl, rfl, trivial⟩, ?_⟩
     clear q0 Q0
     refine NAny_all1 (i := 8) (by kernel_rfl) rfl (fun d h => by cases h) ?_
     refine aAt_op rfl rfl fun Q0 q0 => ?_
     simp only [↓bO, go_sem, seval, Sch.cells]
     refine q0 _ ⟨⟨rfl, rfl, rfl, rfl, trivial⟩, ?_⟩
     clear q0 Q0
     refine NAny_done (by kernel_rfl) ?_
     simp only [thenQ, blockQ, noGotoQ]
     refine y0 _ ?_
     try clear y0 Y0
     refine AWp_ret ?_
     try simp only [thenQ, blockQ, noGotoQ, retQ, aRes, tupOf, bS, bA, aLoad, getO, pack, bL, Nat.reduceAdd, Nat.reduceLeDiff, Nat.reduceEqDiff, ↓reduceIte, ti31, tyX, Sch.cells, List.length_map]
     unfold closeS
     rw [if_pos hr]
     exact Le.refl _
    ·
     refine aAt_op rfl rfl fun Q0 q0 => ?_
     simp only [↓bO, go_sem, seval, Sch.cells]
     refine q0 _ ⟨⟨rfl, rfl, rfl, rfl, trivial⟩, ?_⟩
     clear q0 Q0
     refine NAny_all1 (i := 2) (by kernel_rfl) rfl (fun d h => by cases h; rfl) ?_
     refine aAt_op rfl rfl fun Q0 q0 => ?_
     simp only [↓bO, go_sem, seval, Sch.cells]
     refine ACalls.fresh (R' := .own 2 (Ty.rvarsL [t] []).length) (os1' := [(2, .row 3 1 ((Ty.rvarsL [t] []).map intC))]) (OVars_calls [t] (by simp only [Ty.cntL]; omega)) (.cons (show Data (.sl 3 [t.cells]) from Ty.dataSl [t]) .nil) (.own rfl) (by simp) ⟨rfl, .row (iD_data _), trivial⟩ ?_
     simp only [List.cons_append, List.nil_append]
     try simp only [bS, bA]
     refine q0 _ ⟨⟨rfl, rfl, rfl, rfl, trivial⟩, ?_⟩
     clear q0 Q0
     refine NAny_all1 (i := 4) (by kernel_rfl) rfl (fun d h => by cases h; rfl) ?_
     refine aAt_op rfl rfl fun Q0 q0 => ?_
     simp only [↓bO, go_sem, seval, Sch.cells]
     refine ACalls.eats (DelF_calls (Ty.rvarsL [t] []) 35 [.eptr [.sl 1 ((Ty.rvarsL ar []).map intC)]] (fun v => decide (v ∈ (Ty.rvarsL ar []))) (by omega) (.cons (.eptr (.cons (dataInts _) .nil)) .nil) (fun v _ => Close1_pure (Ty.rvarsL ar []) v (by omega))) (by first | omega | (simp only; omega)) ⟨.own rfl, .data (.clo (.cons (.eptr (.cons (dataInts _) .nil)) .nil)), trivial⟩ (dataInts _) rfl (.row (iD_data _)) ?_
     simp only [delO, List.filter_cons, List.filter_nil, Nat.reduceBEq, Bool.not_true, Bool.not_false, ↓reduceIte, Bool.false_eq_true]
     try simp only [bS, bA]
     refine q0 _ ⟨⟨rfl, rfl, rfl, rfl, trivial⟩, ?_⟩
     clear q0 Q0
     refine NAny_all1 (i := 6) (by kernel_rfl) rfl (fun d h => by cases h; rfl) ?_
     refine aAt_op rfl rfl fun Q0 q0 => ?_
     simp only [↓bO, go_sem, seval, Sch.cells]
     refine APure.call (Copy_pure t (by omega)) ?_
     try simp only [bS, bA]
     refine q0 _ ⟨⟨rfl, rfl, rfl, rfl, trivial⟩, ?_⟩
     clear q0 Q0
     refine NAny_all1 (i := 7) (by kernel_rfl) rfl (fun d h => by cases h; rfl) ?_
     refine aAt_op rfl rfl fun Q0 q0 => ?_
     simp only [↓bO, go_sem, seval, Sch.cells]
     refine q0 _ ⟨⟨rfl, rfl, rfl, rfl, trivial⟩, ?_⟩
     clear q0 Q0
     refine NAny_all1 (i := 8) (by kernel_rfl) rfl (fun d h => by cases h) ?_
     refine aAt_op rfl rfl fun Q0 q0 => ?_
     simp only [↓bO, go_sem, seval, Sch.cells]
     refine q0 _ ⟨⟨rfl, rfl, rfl, rfl, trivial⟩, ?_⟩
     clear q0 Q0
     refine NAny_done (by kernel_rfl) ?_
     simp only [thenQ, blockQ, noGotoQ]
     refine y0 _ ?_
     try clear y0 Y0
     refine AWp_ret ?_
     try simp only [thenQ, blockQ, noGotoQ, retQ, aRes, tupOf, bS, bA, aLoad, getO, pack, bL, Nat.reduceAdd, Nat.reduceLeDiff, Nat.reduceEqDiff, ↓reduceIte, ti31, tyX, Sch.cells, List.length_map]
     unfold closeS
     rw [if_pos hr]
     exact Le.refl _
   ·
    refine aAt_op rfl rfl fun Q0 q0 => ?_
    simp only [↓bO, go_sem, seval, Sch.cells]
    refine q0 _ ⟨⟨rfl, rfl, rfl, rfl, trivial⟩, ?_⟩
    clear q0 Q0
    refine NAny_all1 (i := 1) (by kernel_rfl) rfl (fun d h => by cases h; rfl) ?_
    refine aAt_op rfl rfl fun Q0 q0 => ?_
    simp only [↓bO, go_sem, seval, ↓bs1_1, ↓bs1_2, ↓bs1_3, ↓bs1_4, ↓bs1_5, ↓bs1_6, ↓bs1_7, ↓bs1_8, ↓bs1_9, ↓bs1_10, ↓bs1_11, ↓bs1_12, Sch.cells]
    refine q0 _ ⟨⟨rfl, rfl, rfl, rfl, trivial⟩, ?_⟩
    clear q0 Q0
    refine NAny_all1 (i := 2) (by kernel_rfl) rfl (fun d h => by cases h; rfl) ?_
    refine aAt_op rfl rfl fun Q0 q0 => ?_
    simp only [↓bO, go_sem, seval, Sch.cells]
    refine ACalls.fresh (R' := .own 2 (Ty.rvarsL [t] []).length) (os1' := [(2, .row 3 1 ((Ty.rvarsL [t] []).map intC))]) (OVars_calls [t] (by simp only [Ty.cntL]; omega)) (.cons (show Data (.sl 3 [t.cells]) from Ty.dataSl [t]) .nil) (.own rfl) (by simp) ⟨rfl, .row (iD_data _), trivial⟩ ?_
    simp only [List.cons_append, List.nil_append]
    try simp only [bS, bA]
    refine q0 _ ⟨⟨rfl, rfl, rfl, rfl, trivial⟩, ?_⟩
    clear q0 Q0
    refine NAny_all1 (i := 4) (by kernel_rfl) rfl (fun d h => by cases h; rfl) ?_
    refine aAt_op rfl rfl fun Q0 q0 => ?_
    simp only [↓bO, go_sem, seval, Sch.cells]
    refine ACalls.eats (DelF_calls (Ty.rvarsL [t] []) 35 [.eptr [.sl 1 ((Ty.rvarsL ar []).map intC)]] (fun v => decide (v ∈ (Ty.rvarsL ar []))) (by omega) (.cons (.eptr (.cons (dataInts _) .nil)) .nil) (fun v _ => Close1_pure (Ty.rvarsL ar []) v (by omega))) (by first | omega | (simp only; omega)) ⟨.own rfl, .data (.clo (.cons (.eptr (.cons (dataInts _) .nil)) .nil)), trivial⟩ (dataInts _) rfl (.row (iD_data _)) ?_
    simp only [delO, List.filter_cons, List.filter_nil, Nat.reduceBEq, Bool.not_true, Bool.not_false, ↓reduceIte, Bool.false_eq_true]
    try simp only [bS, bA]
    refine q0 _ ⟨⟨rfl, rfl, rfl, rfl, trivial⟩, ?_⟩
    clear q0 Q0
    refine NAny_all1 (i := 6) (by kernel_rfl) rfl (fun d h => by cases h; rfl) ?_
    refine aAt_op rfl rfl fun Q0 q0 => ?_
    simp only [↓bO, go_sem, seval, Sch.cells]
    refine APure.call (Copy_pure t (by omega)) ?_
    try simp only [bS, bA]
    refine q0 _ ⟨⟨rfl, rfl, rfl, rfl, trivial⟩, ?_⟩
    clear q0 Q0
    refine NAny_all1 (i := 7) (by kernel_rfl) rfl (fun d h => by cases h; rfl) ?_
    refine aAt_op rfl rfl fun Q0 q0 => ?_
    simp only [↓bO, go_sem, seval, Sch.cells]
    refine q0 _ ⟨⟨rfl, rfl, rfl, rfl, trivial⟩, ?_⟩
    clear q0 Q0
    refine NAny_all1 (i := 8) (by kernel_rfl) rfl (fun d h => by cases h) ?_
    refine aAt_op rfl rfl fun Q0 q0 => ?_
    simp only [↓bO, go_sem, seval, Sch.cells]
    refine q0 _ ⟨⟨rfl, rfl, rfl, rfl, trivial⟩, ?_⟩
    clear q0 Q0
    refine NAny_done (by kernel_rfl) ?_
    simp only [thenQ, blockQ, noGotoQ]
    refine y0 _ ?_
    try clear y0 Y0
    refine AWp_ret ?_
    try simp only [thenQ, blockQ, noGotoQ, retQ, aRes, tupOf, bS, bA, aLoad, getO, pack, bL, Nat.reduceAdd, Nat.reduceLeDiff, Nat.reduceEqDiff, ↓reduceIte, ti31, tyX, Sch.cells, List.length_map]
    unfold closeS
    rw [if_pos hr]
    exact Le.refl _
end Go.Proofs.YtheacaigeidflaaDoor
