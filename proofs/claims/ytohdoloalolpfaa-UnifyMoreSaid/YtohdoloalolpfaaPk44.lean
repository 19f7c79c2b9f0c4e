/- Texts of the abstract walk, of the contracts and of the plain laws, packed (part 44 of 44): Um2 Umore. Conditions: none. -/
import Derived.Test.YtohdoloalolpfaaPk43
import Derived.Test.YtohdoloalolpfaaRows
import Derived.OpenShut
import Derived.ChangeOld
import Derived.Below
namespace Go.Proofs.Ytohdoloalolpfaa
open Go Go.RowKit
set_option maxRecDepth 100000
set_option maxHeartbeats 1000000
set_option linter.unusedSimpArgs false
set_option linter.unusedVariables false
attribute [local irreducible] aops dRun
theorem sumP_app : ∀ (a b : List (Ty × Ty)), sumP (a ++ b) = sumP a + sumP b
  | [], b => by simp [sumP]
  | x :: a, b => by simp only [List.cons_append, sumP, sumP_app a b]; omega
theorem vns_len (m : List RNode) : (vns m).length ≤ m.length := by unfold vns; rw [List.length_map]; exact List.length_filter_le _ _
theorem rights_okE (es : List EqT) (h : sumP (es.map EqT.p) ≤ 160) : sumP ((rightsE es).map EqT.p) ≤ 160 ∧ OkE ((rightsE es).map EqT.p) := by
  have key : ∀ l : List EqT, sumP ((rightsE l).map EqT.p) ≤ sumP (l.map EqT.p) := fun l => by
    induction l with
    | nil => simp [rightsE]
    | cons e l ih =>
      unfold rightsE at ih ⊢
      rw [List.filter_cons]
      split
      · simp only [List.map_cons, sumP]; omega
      · simp only [List.map_cons, sumP]; omega
  have h1 := key es
  refine ⟨by omega, fun e he => ?_⟩
  have h2 := sumP_mem he
  obtain ⟨x, hx, rfl⟩ := List.mem_map.1 he
  have h3 := (List.mem_filter.1 hx).2
  simp only [EqT.ok, Bool.and_eq_true] at h3
  exact ⟨h3.1, h3.2, by omega, by omega⟩
theorem UnifyMore_pure (es fs : List EqT) : APure Try.prog 9 [.sl 8 (es.map EqT.cells), .sl 8 (fs.map EqT.cells)] (.v (.bool true)) := by
 refine APure.mkL (.cons (EqT.dataSl es) (.cons (EqT.dataSl fs) .nil)) (.v _) ?_
 refine ACalls_intro Try.func9 (by kernel_rfl) rfl (by rw [Try.ntmps9]; simp) (fun hm => ?_)
 simp only [Try.ntmps9, Try.results9, List.length_cons, List.length_nil, Nat.reduceAdd, Nat.reduceSub, List.replicate_succ, List.replicate_zero, List.cons_append, List.nil_append]
 refine AWp_seqK fun K1 hK1 => ?_
 refine AWp_region ?_
 simp only [↓bO, bS, bA, bF, ↓reduceIte, Nat.reduceEqDiff, reduceCtorEq, tyX, List.length_map]
 refine hK1 _ ?_; try clear hK1 K1
 refine AWp_seqK fun K2 hK2 => ?_
 refine AWp_seqK fun K3 hK3 => ?_
 refine AWp_region ?_
 refine aops_chunk 1 fun C4 hC4 => ?_
 simp only [bL, ↓bO, bS, bA, bF, ↓reduceIte, Nat.reduceEqDiff, reduceCtorEq, tyX, List.length_map]
 refine hC4 _ ?_; clear hC4 C4
 simp only [bL]
 refine aops_chunk 1 fun C5 hC5 => ?_
 simp only [bL, ↓bO, bS, bA, bF, ↓reduceIte, Nat.reduceEqDiff, reduceCtorEq, aCallV, tyX, List.length_map]
 refine APure.call (Great12_pure es) ?_
 try simp only [bS, bA, bF]
 refine hC5 _ ?_; clear hC5 C5
 simp only [bL]
 refine aops_chunk 1 fun C6 hC6 => ?_
 simp only [bL, ↓bO, bS, bA, bF, ↓reduceIte, Nat.reduceEqDiff, reduceCtorEq, tyX, List.length_map]
 refine hC6 _ ?_; clear hC6 C6
 simp only [bL]
 refine aops_case 14 rfl (fun hc14 => ?_) (fun hc14 => ?_)
 ·
  simp only [List.set_cons_zero, List.set_cons_succ]
  refine aops_chunk 1 fun C7 hC7 => ?_
  simp only [bL, ↓bO, bS, bA, bF, ↓reduceIte, Nat.reduceEqDiff, reduceCtorEq, undef, tyX, List.length_map]
  refine hC7 _ ?_; clear hC7 C7
  simp only [bL]
  refine aops_chunk 1 fun C8 hC8 => ?_
  simp only [bL, ↓bO, bS, bA, bF, ↓reduceIte, Nat.reduceEqDiff, reduceCtorEq, undef, aCallV, tyX, List.length_map]
  refine hC8 _ ?_; clear hC8 C8
  simp only [bL]
  simp only [↓bO, bS, bA, bF, ↓reduceIte, Nat.reduceEqDiff, reduceCtorEq, aBool, tyX, List.length_map]
  refine hK3 _ ?_; try clear hK3 K3
  refine AWp_cond (b := true) (by first | exact rfl | exact congrArg (fun b => AV.v (.bool b)) hb17) (fun _ => ?_) (fun h => (by cases h))
  refine AWp_seqK fun K9 hK9 => ?_
  refine AWp_region ?_
  refine aops_chunk 1 fun C10 hC10 => ?_
  simp only [bL, ↓bO, bS, bA, bF, ↓reduceIte, Nat.reduceEqDiff, reduceCtorEq, aCallV, tyX, List.length_map]
  refine APure.call (awake12_pure) ?_
  try simp only [bS, bA, bF]
  refine hC10 _ ?_; clear hC10 C10
  simp only [bL]
  simp only [↓bO, bS, bA, bF, ↓reduceIte, Nat.reduceEqDiff, reduceCtorEq, tyX, List.length_map]
  refine hK9 _ ?_; try clear hK9 K9
  refine AWp_ret ?_
  try simp only [bF, retQ, aRes, tupOf, bS, bA]
  exact Le.refl _
 ·
  simp only [List.set_cons_zero, List.set_cons_succ]
  have hgl := greatE_spec hc14
  refine aops_chunk 1 fun C11 hC11 => ?_
  simp only [bL, ↓bO, bS, bA, bF, ↓reduceIte, Nat.reduceEqDiff, reduceCtorEq, undef, tyX, List.length_map]
  refine hC11 _ ?_; clear hC11 C11
  simp only [bL]
  refine aops_chunk 1 fun C12 hC12 => ?_
  simp only [bL, ↓bO, bS, bA, bF, ↓reduceIte, Nat.reduceEqDiff, reduceCtorEq, undef, aCallV, tyX, List.length_map]
  refine APure.call (Great12_pure fs) ?_
  try simp only [bS, bA, bF]
  refine hC12 _ ?_; clear hC12 C12
  simp only [bL]
  simp only [↓bO, bS, bA, bF, ↓reduceIte, Nat.reduceEqDiff, reduceCtorEq, aBool, tyX, List.length_map]
  refine hK3 _ ?_; try clear hK3 K3
  refine AWp_cond rfl (fun hb17 => ?_) (fun hb17 => ?_)
  ·
   refine AWp_seqK fun K13 hK13 => ?_
   refine AWp_region ?_
   refine aops_chunk 1 fun C14 hC14 => ?_
   simp only [bL, ↓bO, bS, bA, bF, ↓reduceIte, Nat.reduceEqDiff, reduceCtorEq, aCallV, tyX, List.length_map]
   refine APure.call (awake12_pure) ?_
   try simp only [bS, bA, bF]
   refine hC14 _ ?_; clear hC14 C14
   simp only [bL]
   simp only [↓bO, bS, bA, bF, ↓reduceIte, Nat.reduceEqDiff, reduceCtorEq, tyX, List.length_map]
   refine hK13 _ ?_; try clear hK13 K13
   refine AWp_ret ?_
   try simp only [bF, retQ, aRes, tupOf, bS, bA]
   exact Le.refl _
  ·
   have hgm := greatE_spec hb17
   rw [List.length_map] at hgl hgm
   obtain ⟨hsl, hol⟩ := rights_okE es hgl.2
   obtain ⟨hsm, hom⟩ := rights_okE fs hgm.2
   have hll := rightsE_len es
   have hlm := rightsE_len fs
   have hoa : OkE (((rightsE es).map EqT.p) ++ ((rightsE fs).map EqT.p)) := fun x hx => (List.mem_append.1 hx).elim (hol x) (hom x)
   refine AWp_skip ?_
   try simp only [bF]
   refine hK2 _ ?_; try clear hK2 K2
   refine AWp_seqK fun K15 hK15 => ?_
   refine AWp_region ?_
   refine aops_chunk 1 fun C16 hC16 => ?_
   simp only [bL, ↓bO, bS, bA, bF, ↓reduceIte, Nat.reduceEqDiff, reduceCtorEq, tyX, List.length_map]
   refine hC16 _ ?_; clear hC16 C16
   simp only [bL]
   refine aops_chunk 1 fun C17 hC17 => ?_
   simp only [bL, ↓bO, bS, bA, bF, ↓reduceIte, Nat.reduceEqDiff, reduceCtorEq, aCallV, tyX, List.length_map]
   refine APure.call (Rights12_pure es (by omega)) ?_
   try simp only [bS, bA, bF]
   refine hC17 _ ?_; clear hC17 C17
   simp only [bL]
   refine aops_chunk 1 fun C18 hC18 => ?_
   simp only [bL, ↓bO, bS, bA, bF, ↓reduceIte, Nat.reduceEqDiff, reduceCtorEq, tyX, List.length_map]
   refine hC18 _ ?_; clear hC18 C18
   simp only [bL]
   refine aops_chunk 1 fun C19 hC19 => ?_
   simp only [bL, ↓bO, bS, bA, bF, ↓reduceIte, Nat.reduceEqDiff, reduceCtorEq, aCallV, tyX, List.length_map]
   refine APure.call (Rights12_pure fs (by omega)) ?_
   try simp only [bS, bA, bF]
   refine hC19 _ ?_; clear hC19 C19
   simp only [bL]
   refine aops_chunk 1 fun C20 hC20 => ?_
   simp only [bL, ↓bO, bS, bA, bF, ↓reduceIte, Nat.reduceEqDiff, reduceCtorEq, tyX, List.length_map]
   refine hC20 _ ?_; clear hC20 C20
   simp only [bL]
   simp only [↓bO, bS, bA, bF, ↓reduceIte, Nat.reduceEqDiff, reduceCtorEq, tyX, List.length_map]
   refine hK15 _ ?_; try clear hK15 K15
   refine AWp_seqK fun K21 hK21 => ?_
   refine AWp_region ?_
   refine aops_chunk 1 fun C22 hC22 => ?_
   simp only [bL, ↓bO, bS, bA, bF, ↓reduceIte, Nat.reduceEqDiff, reduceCtorEq, aCallV, tyX, List.length_map]
   refine VNew_calls.mono ?_
   rintro r os' nx' ⟨⟨rfl, rfl⟩, rfl⟩
   try simp only [bS, bA, bF]
   refine hC22 _ ?_; clear hC22 C22
   simp only [bL]
   refine aops_chunk 1 fun C23 hC23 => ?_
   simp only [bL, ↓bO, bS, bA, bF, ↓reduceIte, Nat.reduceEqDiff, reduceCtorEq, aCallV, tyX, List.length_map]
   refine ACalls.fresh (R' := .ptr 7 0) (os1' := newOs 4 5 6 7) VNew_calls .nil (.ptr rfl) (by decide) ⟨rfl, .cells ⟨.v _, .ptr rfl, .ptr rfl, .v _, .v _, trivial⟩, rfl, .cells ⟨.v _, .map rfl, trivial⟩, rfl, .map (by intro p hp; cases hp), rfl, .cells ⟨.v _, .v _, .v _, .v _, trivial⟩, trivial⟩ ?_
   simp only [newOs, List.cons_append, List.nil_append]
   try simp only [bS, bA, bF]
   refine hC23 _ ?_; clear hC23 C23
   simp only [bL]
   refine aops_chunk 1 fun C24 hC24 => ?_
   simp only [bL, ↓bO, bS, bA, bF, ↓reduceIte, Nat.reduceEqDiff, reduceCtorEq, tyX, List.length_map]
   refine hC24 _ ?_; clear hC24 C24
   simp only [bL]
   simp only [↓bO, bS, bA, bF, ↓reduceIte, Nat.reduceEqDiff, reduceCtorEq, tyX, List.length_map]
   refine hK21 _ ?_; try clear hK21 K21
   refine AWp_seqK fun K25 hK25 => ?_
   refine AWp_weak (Weak.rowCell 3 1 0 (id := 0) rfl rfl) ?_
   simp only [newOs, putO, Nat.reduceEqDiff, ↓reduceIte, List.set_cons_zero, List.set_cons_succ, List.cons_append, List.nil_append]
   refine AWp_weak (Weak.rowCell 3 1 1 (id := 0) rfl rfl) ?_
   simp only [newOs, putO, Nat.reduceEqDiff, ↓reduceIte, List.set_cons_zero, List.set_cons_succ, List.cons_append, List.nil_append]
   refine AWp_weak (Weak.rowCell 3 1 3 (id := 3) rfl rfl) ?_
   simp only [newOs, putO, Nat.reduceEqDiff, ↓reduceIte, List.set_cons_zero, List.set_cons_succ, List.cons_append, List.nil_append]
   refine AWp_weak (Weak.tokCell 87 4 (id := 2) (t := 91) [.osl 11 4 ([].map GNode.cells), .map 1] rfl ⟨.inr ⟨rfl, rfl⟩, .inl (.refl _), trivial⟩) ?_
   simp only [newOs, putO, Nat.reduceEqDiff, ↓reduceIte, List.set_cons_zero, List.set_cons_succ, List.cons_append, List.nil_append]
   refine AWp_weak (Weak.rowCell 3 1 0 (id := 4) rfl rfl) ?_
   simp only [newOs, putO, Nat.reduceEqDiff, ↓reduceIte, List.set_cons_zero, List.set_cons_succ, List.cons_append, List.nil_append]
   refine AWp_weak (Weak.rowCell 3 1 1 (id := 4) rfl rfl) ?_
   simp only [newOs, putO, Nat.reduceEqDiff, ↓reduceIte, List.set_cons_zero, List.set_cons_succ, List.cons_append, List.nil_append]
   refine AWp_weak (Weak.rowCell 3 1 3 (id := 7) rfl rfl) ?_
   simp only [newOs, putO, Nat.reduceEqDiff, ↓reduceIte, List.set_cons_zero, List.set_cons_succ, List.cons_append, List.nil_append]
   refine AWp_weak (Weak.tokCell 87 4 (id := 6) (t := 91) [.osl 15 4 ([].map GNode.cells), .map 5] rfl ⟨.inr ⟨rfl, rfl⟩, .inl (.refl _), trivial⟩) ?_
   simp only [newOs, putO, Nat.reduceEqDiff, ↓reduceIte, List.set_cons_zero, List.set_cons_succ, List.cons_append, List.nil_append]
   refine AWp_seqK fun K26 hK26 => ?_
   refine AWp_region ?_
   simp only [↓bO, bS, bA, bF, ↓reduceIte, Nat.reduceEqDiff, reduceCtorEq, tyX, List.length_map]
   refine hK26 _ ?_; try clear hK26 K26
   refine AWp_block ?_
   refine AWp_loopM (σ := CS × CS × Nat) [true, true, false, false, false, true, true, true, false, false, false, false, false, false, false, false, false, false, false, false, false, false, false, false, false, false, false, false, false, false, false, false, false, false, false, false, false, false, false, false, false, false, false, false, false, false, false, false, false, false, false, false, false, false, false, false, false, false, false, false, false, false, false, false, false, false, false, false, false, false, false, false, false, false, false, false, false, false, false, false, false, false, false, false, false, false, false, false, false, false, false, false, false, false, false, false, false, false, false, false, false, false, false, false, false, false, false, false, false, false, false, false, false, false, false, false, false, false, false, false, false, false, false, false, false, false, false, false, false, false, false, false, false, false, false, false, false, false, false, false, false, false] (fun u => CSt (((rightsE es).map EqT.p).take u.2.2) u.1 ∧ CSt (((rightsE es).map EqT.p).take u.2.2) u.2.1 ∧ u.2.2 ≤ (rightsE es).length) (fun u => [(7, .v (.int .i64 (u.2.2 : Int)))]) (fun u => [(3, .cells 119 [.v (.int .i64 u.1.steps), .ptr 2 0, .ptr 0 0, .own 10 u.1.W.length, .v (.bool u.1.clash)]), (2, .cells 91 [.osl 11 4 (u.1.G.N.map GNode.cells), .map 1]), (11, .tok 87 4 u.1.G.N.length), (1, .map (u.1.G.V.map vC)), (0, .cells 137 [.own 8 u.1.F.up.length, .own 9 u.1.F.rank.length, .v (.int .i64 u.1.F.sets), .v (.int .i64 u.1.F.steps)]), (8, .row 3 1 (u.1.F.up.map nC)), (9, .row 3 1 (u.1.F.rank.map intC)), (10, .row 3 1 (u.1.W.map intC)), (7, .cells 119 [.v (.int .i64 u.2.1.steps), .ptr 6 0, .ptr 4 0, .own 14 u.2.1.W.length, .v (.bool u.2.1.clash)]), (6, .cells 91 [.osl 15 4 (u.2.1.G.N.map GNode.cells), .map 5]), (15, .tok 87 4 u.2.1.G.N.length), (5, .map (u.2.1.G.V.map vC)), (4, .cells 137 [.own 12 u.2.1.F.up.length, .own 13 u.2.1.F.rank.length, .v (.int .i64 u.2.1.F.sets), .v (.int .i64 u.2.1.F.steps)]), (12, .row 3 1 (u.2.1.F.up.map nC)), (13, .row 3 1 (u.2.1.F.rank.map intC)), (14, .row 3 1 (u.2.1.W.map intC))]) (fun u => (rightsE es).length - u.2.2) (CS0, CS0, 0) (⟨CSt.none, CSt.none, by simp only; omega⟩) ?_ (fun u hu => ?_)
   ·
    simp only [maskL, setsL, putsO, putO, bA, Nat.reduceEqDiff, ↓reduceIte, CS0, bL]
    exact Weak.mk (by simp only [LeL, Le.refl, Le.any, Le.slNil, and_self, Int.natCast_add, Int.cast_ofNat_Int, Int.natCast_one]) (fun _ _ h => h) rfl rfl
   simp only [maskL, setsL, putsO, putO, bA, Nat.reduceEqDiff, ↓reduceIte]
   refine AWp_seqK fun K27 hK27 => ?_
   refine AWp_seqK fun K28 hK28 => ?_
   refine AWp_region ?_
   refine aops_chunk 1 fun C29 hC29 => ?_
   simp only [bL, ↓bO, bS, bA, bF, ↓reduceIte, Nat.reduceEqDiff, reduceCtorEq, tyX, List.length_map]
   refine hC29 _ ?_; clear hC29 C29
   simp only [bL]
   refine aops_chunk 1 fun C30 hC30 => ?_
   simp only [bL, ↓bO, bS, bA, bF, ↓reduceIte, Nat.reduceEqDiff, reduceCtorEq, tyX, List.length_map]
   refine hC30 _ ?_; clear hC30 C30
   simp only [bL]
   refine aops_chunk 1 fun C31 hC31 => ?_
   simp only [bL, ↓bO, bS, bA, bF, ↓reduceIte, Nat.reduceEqDiff, reduceCtorEq, getO, aLenX, aLen, ln61, List.length_map, tyX]
   refine hC31 _ ?_; clear hC31 C31
   simp only [bL]
   simp only [↓bO, bS, bA, bF, ↓reduceIte, Nat.reduceEqDiff, reduceCtorEq, aBin, tyX, List.length_map]
   refine hK28 _ ?_; try clear hK28 K28
   refine AWp_cond rfl (fun hb28 => ?_) (fun hb28 => ?_)
   ·
    have hk : u.2.2 < (rightsE es).length := by simpa using hb28
    obtain ⟨e, he⟩ : ∃ e, (rightsE es)[u.2.2]? = some e := ⟨_, List.getElem?_eq_getElem hk⟩
    have hep : ((rightsE es).map EqT.p)[u.2.2]? = some e.p := by rw [List.getElem?_map, he]; rfl
    have het : ((rightsE es).map EqT.p).take (u.2.2 + 1) = ((rightsE es).map EqT.p).take u.2.2 ++ [e.p] := by rw [List.take_add_one, hep]; rfl
    have hst := sumP_take ((rightsE es).map EqT.p) (u.2.2 + 1)
    rw [het, sumP_snoc] at hst
    simp only [EqT.p] at hst
    have hw : IntKind.i64.wrap ((u.2.2 : Int) + 1) = (u.2.2 : Int) + 1 := wrap_in (by omega) (by omega)
    have hl1 := hu.1.len
    have hl2 := hu.2.1.len
    have heo := hol e.p (List.mem_of_getElem? hep)
    refine AWp_skip ?_
    try simp only [bF]
    refine hK27 _ ?_; try clear hK27 K27
    refine AWp_seqK fun K32 hK32 => ?_
    refine AWp_block ?_
    refine AWp_seqK fun K33 hK33 => ?_
    refine AWp_drawK 11 mixed (by kernel_rfl) fun K34 hK34 => ?_
    simp only [bL]
    refine dRun_chunk 1 fun C35 hC35 => ?_
    simp only [bL, ↓dRun, ↓dOp, ↓bO, bS, bA, bF, ↓reduceIte, Nat.reduceEqDiff, reduceCtorEq, tyX, List.length_map, hk, gM he, EqT.cells, Ty.refold, hw, Int.natCast_add, Int.natCast_one, Int.cast_ofNat_Int]
    refine hC35 _ ?_; clear hC35 C35
    simp only [bL]
    refine dRun_chunk 1 fun C36 hC36 => ?_
    simp only [bL, ↓dRun, ↓dOp, ↓bO, bS, bA, bF, ↓reduceIte, Nat.reduceEqDiff, reduceCtorEq, tyX, List.length_map, hk, gM he, EqT.cells, Ty.refold, hw, Int.natCast_add, Int.natCast_one, Int.cast_ofNat_Int]
    refine hC36 _ ?_; clear hC36 C36
    simp only [bL]
    refine dRun_chunk 1 fun C37 hC37 => ?_
    simp only [bL, ↓dRun, ↓dOp, ↓bO, bS, bA, bF, ↓reduceIte, Nat.reduceEqDiff, reduceCtorEq, tyX, List.length_map, hk, gM he, EqT.cells, Ty.refold, hw, Int.natCast_add, Int.natCast_one, Int.cast_ofNat_Int]
    refine hC37 _ ?_; clear hC37 C37
    simp only [bL]
    refine dRun_chunk 1 fun C38 hC38 => ?_
    simp only [bL, ↓dRun, ↓dOp, ↓bO, bS, bA, bF, ↓reduceIte, Nat.reduceEqDiff, reduceCtorEq, getO, aIndexA, es61, Int.natCast_nonneg, Int.ofNat_lt, Int.toNat_natCast, List.length_map, Int.le_refl, Int.toNat_zero, Int.toNat_one, Int.reduceLE, tyX, hk, gM he, EqT.cells, Ty.refold, hw, Int.natCast_add, Int.natCast_one, Int.cast_ofNat_Int]
    refine hC38 _ ?_; clear hC38 C38
    simp only [bL]
    refine dRun_chunk 1 fun C39 hC39 => ?_
    simp only [bL, ↓dRun, ↓dOp, ↓bO, bS, bA, bF, ↓reduceIte, Nat.reduceEqDiff, reduceCtorEq, aField, fo73_0, Nat.reduceAdd, tyX, List.length_map, hk, gM he, EqT.cells, Ty.refold, hw, Int.natCast_add, Int.natCast_one, Int.cast_ofNat_Int]
    refine hC39 _ ?_; clear hC39 C39
    simp only [bL]
    refine dRun_chunk 1 fun C40 hC40 => ?_
    simp only [bL, ↓dRun, ↓dOp, ↓bO, bS, bA, bF, ↓reduceIte, Nat.reduceEqDiff, reduceCtorEq, aLoad, ti32, getO, pack, Nat.reduceAdd, Nat.reduceLeDiff, tyX, List.length_map, hk, gM he, EqT.cells, Ty.refold, hw, Int.natCast_add, Int.natCast_one, Int.cast_ofNat_Int]
    refine hC40 _ ?_; clear hC40 C40
    simp only [bL]
    refine dRun_chunk 1 fun C41 hC41 => ?_
    simp only [bL, ↓dRun, ↓dOp, ↓bO, bS, bA, bF, ↓reduceIte, Nat.reduceEqDiff, reduceCtorEq, tyX, List.length_map, hk, gM he, EqT.cells, Ty.refold, hw, Int.natCast_add, Int.natCast_one, Int.cast_ofNat_Int]
    refine hC41 _ ?_; clear hC41 C41
    simp only [bL]
    refine dRun_chunk 1 fun C42 hC42 => ?_
    simp only [bL, ↓dRun, ↓dOp, ↓bO, bS, bA, bF, ↓reduceIte, Nat.reduceEqDiff, reduceCtorEq, tyX, List.length_map, hk, gM he, EqT.cells, Ty.refold, hw, Int.natCast_add, Int.natCast_one, Int.cast_ofNat_Int]
    refine hC42 _ ?_; clear hC42 C42
    simp only [bL]
    refine dRun_chunk 1 fun C43 hC43 => ?_
    simp only [bL, ↓dRun, ↓dOp, ↓bO, bS, bA, bF, ↓reduceIte, Nat.reduceEqDiff, reduceCtorEq, getO, aIndexA, es61, Int.natCast_nonneg, Int.ofNat_lt, Int.toNat_natCast, List.length_map, Int.le_refl, Int.toNat_zero, Int.toNat_one, Int.reduceLE, tyX, hk, gM he, EqT.cells, Ty.refold, hw, Int.natCast_add, Int.natCast_one, Int.cast_ofNat_Int]
    refine hC43 _ ?_; clear hC43 C43
    simp only [bL]
    refine dRun_chunk 1 fun C44 hC44 => ?_
    simp only [bL, ↓dRun, ↓dOp, ↓bO, bS, bA, bF, ↓reduceIte, Nat.reduceEqDiff, reduceCtorEq, aField, fo73_1, Nat.reduceAdd, tyX, List.length_map, hk, gM he, EqT.cells, Ty.refold, hw, Int.natCast_add, Int.natCast_one, Int.cast_ofNat_Int]
    refine hC44 _ ?_; clear hC44 C44
    simp only [bL]
    simp only [↓dRun, ↓dOp, bL, ↓bO, bS, bA, bF, ↓reduceIte, Nat.reduceEqDiff, reduceCtorEq, aLoad, ti32, getO, pack, Nat.reduceAdd, Nat.reduceLeDiff, tyX, List.length_map, hk, gM he, EqT.cells, Ty.refold, hw, Int.natCast_add, Int.natCast_one, Int.cast_ofNat_Int]
    refine hK34 _ ?_; try clear hK34 K34
    simp only [bL]
    simp only [↓bO, bS, bA, bF, ↓reduceIte, Nat.reduceEqDiff, reduceCtorEq, aCallV, bL, tyX, List.length_map, hk, gM he, EqT.cells, Ty.refold, hw, Int.natCast_add, Int.natCast_one, Int.cast_ofNat_Int]
    refine CCalls.at (Equate_c u.1 (nat2 (eqF (((rightsE es).map EqT.p).take u.2.2)).2) (eqF (((rightsE es).map EqT.p).take u.2.2)).1 e.l e.r (fun hc => (hu.1.good hc).1.2) (by omega) (by omega) (by omega)) (.cons (Ty.dataAgg _) (.cons (Ty.dataAgg _) .nil)) (fun _ => .v _) (i0 := 3) (i1 := 2) (i2 := 11) (i3 := 1) (i4 := 0) (i5 := 8) (i6 := 9) (i7 := 10) (by decide) (by simp) ⟨rfl, rfl, rfl, rfl, rfl, rfl, rfl, rfl, trivial⟩ (fun S1 r1 hE1 => ?_)
    try dsimp only at hE1
    simp only [cObsAt, List.zip_cons_cons, List.zip_nil_left, List.zip_nil_right, putsO, putO, Nat.reduceEqDiff, ↓reduceIte]
    have hc1 := hu.1.step (e := e.p) heo hE1
    try simp only [bS, bA, bF]
    refine hK33 _ ?_; try clear hK33 K33
    refine AWp_drawK 11 mixed (by kernel_rfl) fun K45 hK45 => ?_
    simp only [bL]
    refine dRun_chunk 1 fun C46 hC46 => ?_
    simp only [bL, ↓dRun, ↓dOp, ↓bO, bS, bA, bF, ↓reduceIte, Nat.reduceEqDiff, reduceCtorEq, tyX, List.length_map, hk, gM he, EqT.cells, Ty.refold, hw, Int.natCast_add, Int.natCast_one, Int.cast_ofNat_Int]
    refine hC46 _ ?_; clear hC46 C46
    simp only [bL]
    refine dRun_chunk 1 fun C47 hC47 => ?_
    simp only [bL, ↓dRun, ↓dOp, ↓bO, bS, bA, bF, ↓reduceIte, Nat.reduceEqDiff, reduceCtorEq, tyX, List.length_map, hk, gM he, EqT.cells, Ty.refold, hw, Int.natCast_add, Int.natCast_one, Int.cast_ofNat_Int]
    refine hC47 _ ?_; clear hC47 C47
    simp only [bL]
    refine dRun_chunk 1 fun C48 hC48 => ?_
    simp only [bL, ↓dRun, ↓dOp, ↓bO, bS, bA, bF, ↓reduceIte, Nat.reduceEqDiff, reduceCtorEq, tyX, List.length_map, hk, gM he, EqT.cells, Ty.refold, hw, Int.natCast_add, Int.natCast_one, Int.cast_ofNat_Int]
    refine hC48 _ ?_; clear hC48 C48
    simp only [bL]
    refine dRun_chunk 1 fun C49 hC49 => ?_
    simp only [bL, ↓dRun, ↓dOp, ↓bO, bS, bA, bF, ↓reduceIte, Nat.reduceEqDiff, reduceCtorEq, getO, aIndexA, es61, Int.natCast_nonneg, Int.ofNat_lt, Int.toNat_natCast, List.length_map, Int.le_refl, Int.toNat_zero, Int.toNat_one, Int.reduceLE, tyX, hk, gM he, EqT.cells, Ty.refold, hw, Int.natCast_add, Int.natCast_one, Int.cast_ofNat_Int]
    refine hC49 _ ?_; clear hC49 C49
    simp only [bL]
    refine dRun_chunk 1 fun C50 hC50 => ?_
    simp only [bL, ↓dRun, ↓dOp, ↓bO, bS, bA, bF, ↓reduceIte, Nat.reduceEqDiff, reduceCtorEq, aField, fo73_0, Nat.reduceAdd, tyX, List.length_map, hk, gM he, EqT.cells, Ty.refold, hw, Int.natCast_add, Int.natCast_one, Int.cast_ofNat_Int]
    refine hC50 _ ?_; clear hC50 C50
    simp only [bL]
    refine dRun_chunk 1 fun C51 hC51 => ?_
    simp only [bL, ↓dRun, ↓dOp, ↓bO, bS, bA, bF, ↓reduceIte, Nat.reduceEqDiff, reduceCtorEq, aLoad, ti32, getO, pack, Nat.reduceAdd, Nat.reduceLeDiff, tyX, List.length_map, hk, gM he, EqT.cells, Ty.refold, hw, Int.natCast_add, Int.natCast_one, Int.cast_ofNat_Int]
    refine hC51 _ ?_; clear hC51 C51
    simp only [bL]
    refine dRun_chunk 1 fun C52 hC52 => ?_
    simp only [bL, ↓dRun, ↓dOp, ↓bO, bS, bA, bF, ↓reduceIte, Nat.reduceEqDiff, reduceCtorEq, tyX, List.length_map, hk, gM he, EqT.cells, Ty.refold, hw, Int.natCast_add, Int.natCast_one, Int.cast_ofNat_Int]
    refine hC52 _ ?_; clear hC52 C52
    simp only [bL]
    refine dRun_chunk 1 fun C53 hC53 => ?_
    simp only [bL, ↓dRun, ↓dOp, ↓bO, bS, bA, bF, ↓reduceIte, Nat.reduceEqDiff, reduceCtorEq, tyX, List.length_map, hk, gM he, EqT.cells, Ty.refold, hw, Int.natCast_add, Int.natCast_one, Int.cast_ofNat_Int]
    refine hC53 _ ?_; clear hC53 C53
    simp only [bL]
    refine dRun_chunk 1 fun C54 hC54 => ?_
    simp only [bL, ↓dRun, ↓dOp, ↓bO, bS, bA, bF, ↓reduceIte, Nat.reduceEqDiff, reduceCtorEq, getO, aIndexA, es61, Int.natCast_nonneg, Int.ofNat_lt, Int.toNat_natCast, List.length_map, Int.le_refl, Int.toNat_zero, Int.toNat_one, Int.reduceLE, tyX, hk, gM he, EqT.cells, Ty.refold, hw, Int.natCast_add, Int.natCast_one, Int.cast_ofNat_Int]
    refine hC54 _ ?_; clear hC54 C54
    simp only [bL]
    refine dRun_chunk 1 fun C55 hC55 => ?_
    simp only [bL, ↓dRun, ↓dOp, ↓bO, bS, bA, bF, ↓reduceIte, Nat.reduceEqDiff, reduceCtorEq, aField, fo73_1, Nat.reduceAdd, tyX, List.length_map, hk, gM he, EqT.cells, Ty.refold, hw, Int.natCast_add, Int.natCast_one, Int.cast_ofNat_Int]
    refine hC55 _ ?_; clear hC55 C55
    simp only [bL]
    simp only [↓dRun, ↓dOp, bL, ↓bO, bS, bA, bF, ↓reduceIte, Nat.reduceEqDiff, reduceCtorEq, aLoad, ti32, getO, pack, Nat.reduceAdd, Nat.reduceLeDiff, tyX, List.length_map, hk, gM he, EqT.cells, Ty.refold, hw, Int.natCast_add, Int.natCast_one, Int.cast_ofNat_Int]
    refine hK45 _ ?_; try clear hK45 K45
    simp only [bL]
    simp only [↓bO, bS, bA, bF, ↓reduceIte, Nat.reduceEqDiff, reduceCtorEq, aCallV, bL, tyX, List.length_map, hk, gM he, EqT.cells, Ty.refold, hw, Int.natCast_add, Int.natCast_one, Int.cast_ofNat_Int]
    refine CCalls.at (Equate_c u.2.1 (nat2 (eqF (((rightsE es).map EqT.p).take u.2.2)).2) (eqF (((rightsE es).map EqT.p).take u.2.2)).1 e.l e.r (fun hc => (hu.2.1.good hc).1.2) (by omega) (by omega) (by omega)) (.cons (Ty.dataAgg _) (.cons (Ty.dataAgg _) .nil)) (fun _ => .v _) (i0 := 7) (i1 := 6) (i2 := 15) (i3 := 5) (i4 := 4) (i5 := 12) (i6 := 13) (i7 := 14) (by decide) (by simp) ⟨rfl, rfl, rfl, rfl, rfl, rfl, rfl, rfl, trivial⟩ (fun S2 r2 hE2 => ?_)
    try dsimp only at hE2
    simp only [cObsAt, List.zip_cons_cons, List.zip_nil_left, List.zip_nil_right, putsO, putO, Nat.reduceEqDiff, ↓reduceIte]
    have hc2 := hu.2.1.step (e := e.p) heo hE2
    try simp only [bS, bA, bF]
    refine hK32 _ ?_; try clear hK32 K32
    refine AWp_region ?_
    refine aops_chunk 1 fun C56 hC56 => ?_
    simp only [bL, ↓bO, bS, bA, bF, ↓reduceIte, Nat.reduceEqDiff, reduceCtorEq, tyX, List.length_map, hk, gM he, EqT.cells, Ty.refold, hw, Int.natCast_add, Int.natCast_one, Int.cast_ofNat_Int]
    refine hC56 _ ?_; clear hC56 C56
    simp only [bL]
    refine aops_chunk 1 fun C57 hC57 => ?_
    simp only [bL, ↓bO, bS, bA, bF, ↓reduceIte, Nat.reduceEqDiff, reduceCtorEq, aBin, tyX, List.length_map, hk, gM he, EqT.cells, Ty.refold, hw, Int.natCast_add, Int.natCast_one, Int.cast_ofNat_Int]
    refine hC57 _ ?_; clear hC57 C57
    simp only [bL]
    simp only [↓bO, bS, bA, bF, ↓reduceIte, Nat.reduceEqDiff, reduceCtorEq, tyX, List.length_map, hk, gM he, EqT.cells, Ty.refold, hw, Int.natCast_add, Int.natCast_one, Int.cast_ofNat_Int]
    refine ⟨(S1, S2, u.2.2 + 1), ⟨by rw [het]; exact hc1, by rw [het]; exact hc2, by simp only; omega⟩, (by simp only; omega), ?_⟩
    simp only [maskL, setsL, putsO, putO, List.set_cons_zero, List.set_cons_succ, Nat.reduceEqDiff, ↓reduceIte, Int.natCast_add, Int.natCast_one, Int.cast_ofNat_Int]
    refine Weak.sub ?_ ⟨rfl, rfl, rfl, rfl, rfl, rfl, rfl, rfl, rfl, rfl, rfl, rfl, rfl, rfl, rfl, rfl, trivial⟩ (by first | omega | (simp only; omega)) (by first | omega | (simp only; omega)) ?_ ?_
    · simp only [LeL, Le.refl, Le.any, and_self]
    · repeat' first | exact trivial | exact .any _ | exact .ptr (by omega) | exact .own (by omega) | exact .v _ _ | exact Und.data (EqT.dataSl _) | exact Und.data (dataInts _) | (refine ⟨?_, ?_⟩)
    · repeat' first | exact trivial | (with_reducible omega) | exact .any _ | exact .ptr (by omega) | exact .own (by omega) | exact .v _ _ | exact .map (by omega) | exact Und.oslG (by omega) | exact Und.rowI (nC_data _) | exact Und.rowI (iC_data _) | exact (fun p hp => .data (vC_data _ p hp)) | (refine ⟨?_, ?_⟩)
   ·
    have hk : u.2.2 = (rightsE es).length := by have h9 := hb28; simp at h9; have := hu.2.2; omega
    obtain ⟨S, hS⟩ : ∃ S, S = u.1 := ⟨_, rfl⟩
    have hCS : CSt ((rightsE es).map EqT.p) S := by (have h9 := hu.1; rw [hk, List.take_of_length_le (by simp)] at h9; rw [hS]; exact h9)
    have hCD : CSt ((rightsE es).map EqT.p) u.2.1 := by (have h9 := hu.2.1; rw [hk, List.take_of_length_le (by simp)] at h9; exact h9)
    rw [← hS]
    refine AWp_exit ?_
    simp only [bF, bA, Nat.reduceEqDiff, ↓reduceIte]
    refine hK25 _ ?_; try clear hK25 K25
    refine AWp_seqK fun K58 hK58 => ?_
    refine AWp_seqK fun K59 hK59 => ?_
    refine AWp_region ?_
    simp only [↓bO, bS, bA, bF, ↓reduceIte, Nat.reduceEqDiff, reduceCtorEq, tyX, List.length_map]
    refine hK59 _ ?_; try clear hK59 K59
    refine AWp_block ?_
    refine AWp_loopM (σ := CS × Nat) [false, true, false, false, false, true, true, false, true, false, false, false, false, false, false, false, false, false, false, false, false, false, false, false, false, false, false, false, false, false, false, false, false, false, false, false, false, false, false, false, false, false, false, false, false, false, false, false, false, false, false, false, false, false, false, false, false, false, false, false, false, false, false, false, false, false, false, false, false, false, false, false, false, false, false, false, false, false, false, false, false, false, false, false, false, false, false, false, false, false, false, false, false, false, false, false, false, false, false, false, false, false, false, false, false, false, false, false, false, false, false, false, false, false, false, false, false, false, false, false, false, false, false, false, false, false, false, false, false, false, false, false, false, false, false, false, false, false, false, false, false, false] (fun t => CSt (((rightsE es).map EqT.p) ++ ((rightsE fs).map EqT.p).take t.2) t.1 ∧ t.2 ≤ (rightsE fs).length) (fun t => [(8, .v (.int .i64 (t.2 : Int)))]) (fun t => [(3, .cells 119 [.v (.int .i64 S.steps), .ptr 2 0, .ptr 0 0, .own 10 S.W.length, .v (.bool S.clash)]), (2, .cells 91 [.osl 11 4 (S.G.N.map GNode.cells), .map 1]), (11, .tok 87 4 S.G.N.length), (1, .map (S.G.V.map vC)), (0, .cells 137 [.own 8 S.F.up.length, .own 9 S.F.rank.length, .v (.int .i64 S.F.sets), .v (.int .i64 S.F.steps)]), (8, .row 3 1 (S.F.up.map nC)), (9, .row 3 1 (S.F.rank.map intC)), (10, .row 3 1 (S.W.map intC)), (7, .cells 119 [.v (.int .i64 t.1.steps), .ptr 6 0, .ptr 4 0, .own 14 t.1.W.length, .v (.bool t.1.clash)]), (6, .cells 91 [.osl 15 4 (t.1.G.N.map GNode.cells), .map 5]), (15, .tok 87 4 t.1.G.N.length), (5, .map (t.1.G.V.map vC)), (4, .cells 137 [.own 12 t.1.F.up.length, .own 13 t.1.F.rank.length, .v (.int .i64 t.1.F.sets), .v (.int .i64 t.1.F.steps)]), (12, .row 3 1 (t.1.F.up.map nC)), (13, .row 3 1 (t.1.F.rank.map intC)), (14, .row 3 1 (t.1.W.map intC))]) (fun t => (rightsE fs).length - t.2) (u.2.1, 0) (⟨by simpa using hCD, by simp only; omega⟩) ?_ (fun t ht => ?_)
    ·
     simp only [maskL, setsL, putsO, putO, bA, Nat.reduceEqDiff, ↓reduceIte]
     exact Weak.mk (by simp only [LeL, Le.refl, Le.any, Le.slNil, and_self, Int.natCast_add, Int.cast_ofNat_Int, Int.natCast_one]) (fun _ _ h => h) rfl rfl
    simp only [maskL, setsL, putsO, putO, bA, Nat.reduceEqDiff, ↓reduceIte]
    refine AWp_seqK fun K60 hK60 => ?_
    refine AWp_seqK fun K61 hK61 => ?_
    refine AWp_region ?_
    refine aops_chunk 1 fun C62 hC62 => ?_
    simp only [bL, ↓bO, bS, bA, bF, ↓reduceIte, Nat.reduceEqDiff, reduceCtorEq, tyX, List.length_map]
    refine hC62 _ ?_; clear hC62 C62
    simp only [bL]
    refine aops_chunk 1 fun C63 hC63 => ?_
    simp only [bL, ↓bO, bS, bA, bF, ↓reduceIte, Nat.reduceEqDiff, reduceCtorEq, tyX, List.length_map]
    refine hC63 _ ?_; clear hC63 C63
    simp only [bL]
    refine aops_chunk 1 fun C64 hC64 => ?_
    simp only [bL, ↓bO, bS, bA, bF, ↓reduceIte, Nat.reduceEqDiff, reduceCtorEq, getO, aLenX, aLen, ln61, List.length_map, tyX]
    refine hC64 _ ?_; clear hC64 C64
    simp only [bL]
    simp only [↓bO, bS, bA, bF, ↓reduceIte, Nat.reduceEqDiff, reduceCtorEq, aBin, tyX, List.length_map]
    refine hK61 _ ?_; try clear hK61 K61
    refine AWp_cond rfl (fun hb58 => ?_) (fun hb58 => ?_)
    ·
     have hk : t.2 < (rightsE fs).length := by simpa using hb58
     obtain ⟨e, he⟩ : ∃ e, (rightsE fs)[t.2]? = some e := ⟨_, List.getElem?_eq_getElem hk⟩
     have hep : ((rightsE fs).map EqT.p)[t.2]? = some e.p := by rw [List.getElem?_map, he]; rfl
     have het : ((rightsE fs).map EqT.p).take (t.2 + 1) = ((rightsE fs).map EqT.p).take t.2 ++ [e.p] := by rw [List.take_add_one, hep]; rfl
     have hst := sumP_take ((rightsE fs).map EqT.p) (t.2 + 1)
     rw [het, sumP_snoc] at hst
     simp only [EqT.p] at hst
     have hw : IntKind.i64.wrap ((t.2 : Int) + 1) = (t.2 : Int) + 1 := wrap_in (by omega) (by omega)
     have hl2 := ht.1.len
     have hsa : sumP (((rightsE es).map EqT.p) ++ ((rightsE fs).map EqT.p).take t.2) = sumP ((rightsE es).map EqT.p) + sumP (((rightsE fs).map EqT.p).take t.2) := sumP_app _ _
     have heo := hom e.p (List.mem_of_getElem? hep)
     refine AWp_skip ?_
     try simp only [bF]
     refine hK60 _ ?_; try clear hK60 K60
     refine AWp_seqK fun K65 hK65 => ?_
     refine AWp_block ?_
     refine AWp_drawK 11 mixed (by kernel_rfl) fun K66 hK66 => ?_
     simp only [bL]
     refine dRun_chunk 1 fun C67 hC67 => ?_
     simp only [bL, ↓dRun, ↓dOp, ↓bO, bS, bA, bF, ↓reduceIte, Nat.reduceEqDiff, reduceCtorEq, tyX, List.length_map, hk, gM he, EqT.cells, Ty.refold, hw, Int.natCast_add, Int.natCast_one, Int.cast_ofNat_Int]
     refine hC67 _ ?_; clear hC67 C67
     simp only [bL]
     refine dRun_chunk 1 fun C68 hC68 => ?_
     simp only [bL, ↓dRun, ↓dOp, ↓bO, bS, bA, bF, ↓reduceIte, Nat.reduceEqDiff, reduceCtorEq, tyX, List.length_map, hk, gM he, EqT.cells, Ty.refold, hw, Int.natCast_add, Int.natCast_one, Int.cast_ofNat_Int]
     refine hC68 _ ?_; clear hC68 C68
     simp only [bL]
     refine dRun_chunk 1 fun C69 hC69 => ?_
     simp only [bL, ↓dRun, ↓dOp, ↓bO, bS, bA, bF, ↓reduceIte, Nat.reduceEqDiff, reduceCtorEq, tyX, List.length_map, hk, gM he, EqT.cells, Ty.refold, hw, Int.natCast_add, Int.natCast_one, Int.cast_ofNat_Int]
     refine hC69 _ ?_; clear hC69 C69
     simp only [bL]
     refine dRun_chunk 1 fun C70 hC70 => ?_
     simp only [bL, ↓dRun, ↓dOp, ↓bO, bS, bA, bF, ↓reduceIte, Nat.reduceEqDiff, reduceCtorEq, getO, aIndexA, es61, Int.natCast_nonneg, Int.ofNat_lt, Int.toNat_natCast, List.length_map, Int.le_refl, Int.toNat_zero, Int.toNat_one, Int.reduceLE, tyX, hk, gM he, EqT.cells, Ty.refold, hw, Int.natCast_add, Int.natCast_one, Int.cast_ofNat_Int]
     refine hC70 _ ?_; clear hC70 C70
     simp only [bL]
     refine dRun_chunk 1 fun C71 hC71 => ?_
     simp only [bL, ↓dRun, ↓dOp, ↓bO, bS, bA, bF, ↓reduceIte, Nat.reduceEqDiff, reduceCtorEq, aField, fo73_0, Nat.reduceAdd, tyX, List.length_map, hk, gM he, EqT.cells, Ty.refold, hw, Int.natCast_add, Int.natCast_one, Int.cast_ofNat_Int]
     refine hC71 _ ?_; clear hC71 C71
     simp only [bL]
     refine dRun_chunk 1 fun C72 hC72 => ?_
     simp only [bL, ↓dRun, ↓dOp, ↓bO, bS, bA, bF, ↓reduceIte, Nat.reduceEqDiff, reduceCtorEq, aLoad, ti32, getO, pack, Nat.reduceAdd, Nat.reduceLeDiff, tyX, List.length_map, hk, gM he, EqT.cells, Ty.refold, hw, Int.natCast_add, Int.natCast_one, Int.cast_ofNat_Int]
     refine hC72 _ ?_; clear hC72 C72
     simp only [bL]
     refine dRun_chunk 1 fun C73 hC73 => ?_
     simp only [bL, ↓dRun, ↓dOp, ↓bO, bS, bA, bF, ↓reduceIte, Nat.reduceEqDiff, reduceCtorEq, tyX, List.length_map, hk, gM he, EqT.cells, Ty.refold, hw, Int.natCast_add, Int.natCast_one, Int.cast_ofNat_Int]
     refine hC73 _ ?_; clear hC73 C73
     simp only [bL]
     refine dRun_chunk 1 fun C74 hC74 => ?_
     simp only [bL, ↓dRun, ↓dOp, ↓bO, bS, bA, bF, ↓reduceIte, Nat.reduceEqDiff, reduceCtorEq, tyX, List.length_map, hk, gM he, EqT.cells, Ty.refold, hw, Int.natCast_add, Int.natCast_one, Int.cast_ofNat_Int]
     refine hC74 _ ?_; clear hC74 C74
     simp only [bL]
     refine dRun_chunk 1 fun C75 hC75 => ?_
     simp only [bL, ↓dRun, ↓dOp, ↓bO, bS, bA, bF, ↓reduceIte, Nat.reduceEqDiff, reduceCtorEq, getO, aIndexA, es61, Int.natCast_nonneg, Int.ofNat_lt, Int.toNat_natCast, List.length_map, Int.le_refl, Int.toNat_zero, Int.toNat_one, Int.reduceLE, tyX, hk, gM he, EqT.cells, Ty.refold, hw, Int.natCast_add, Int.natCast_one, Int.cast_ofNat_Int]
     refine hC75 _ ?_; clear hC75 C75
     simp only [bL]
     refine dRun_chunk 1 fun C76 hC76 => ?_
     simp only [bL, ↓dRun, ↓dOp, ↓bO, bS, bA, bF, ↓reduceIte, Nat.reduceEqDiff, reduceCtorEq, aField, fo73_1, Nat.reduceAdd, tyX, List.length_map, hk, gM he, EqT.cells, Ty.refold, hw, Int.natCast_add, Int.natCast_one, Int.cast_ofNat_Int]
     refine hC76 _ ?_; clear hC76 C76
     simp only [bL]
     simp only [↓dRun, ↓dOp, bL, ↓bO, bS, bA, bF, ↓reduceIte, Nat.reduceEqDiff, reduceCtorEq, aLoad, ti32, getO, pack, Nat.reduceAdd, Nat.reduceLeDiff, tyX, List.length_map, hk, gM he, EqT.cells, Ty.refold, hw, Int.natCast_add, Int.natCast_one, Int.cast_ofNat_Int]
     refine hK66 _ ?_; try clear hK66 K66
     simp only [bL]
     simp only [↓bO, bS, bA, bF, ↓reduceIte, Nat.reduceEqDiff, reduceCtorEq, aCallV, bL, tyX, List.length_map, hk, gM he, EqT.cells, Ty.refold, hw, Int.natCast_add, Int.natCast_one, Int.cast_ofNat_Int]
     refine CCalls.at (Equate_c t.1 (nat2 (eqF (((rightsE es).map EqT.p) ++ ((rightsE fs).map EqT.p).take t.2)).2) (eqF (((rightsE es).map EqT.p) ++ ((rightsE fs).map EqT.p).take t.2)).1 e.l e.r (fun hc => (ht.1.good hc).1.2) (by omega) (by omega) (by omega)) (.cons (Ty.dataAgg _) (.cons (Ty.dataAgg _) .nil)) (fun _ => .v _) (i0 := 7) (i1 := 6) (i2 := 15) (i3 := 5) (i4 := 4) (i5 := 12) (i6 := 13) (i7 := 14) (by decide) (by simp) ⟨rfl, rfl, rfl, rfl, rfl, rfl, rfl, rfl, trivial⟩ (fun S2 r2 hE2 => ?_)
     try dsimp only at hE2
     simp only [cObsAt, List.zip_cons_cons, List.zip_nil_left, List.zip_nil_right, putsO, putO, Nat.reduceEqDiff, ↓reduceIte]
     have hc2 := ht.1.step (e := e.p) heo hE2
     try simp only [bS, bA, bF]
     refine hK65 _ ?_; try clear hK65 K65
     refine AWp_region ?_
     refine aops_chunk 1 fun C77 hC77 => ?_
     simp only [bL, ↓bO, bS, bA, bF, ↓reduceIte, Nat.reduceEqDiff, reduceCtorEq, tyX, List.length_map, hk, gM he, EqT.cells, Ty.refold, hw, Int.natCast_add, Int.natCast_one, Int.cast_ofNat_Int]
     refine hC77 _ ?_; clear hC77 C77
     simp only [bL]
     refine aops_chunk 1 fun C78 hC78 => ?_
     simp only [bL, ↓bO, bS, bA, bF, ↓reduceIte, Nat.reduceEqDiff, reduceCtorEq, aBin, tyX, List.length_map, hk, gM he, EqT.cells, Ty.refold, hw, Int.natCast_add, Int.natCast_one, Int.cast_ofNat_Int]
     refine hC78 _ ?_; clear hC78 C78
     simp only [bL]
     simp only [↓bO, bS, bA, bF, ↓reduceIte, Nat.reduceEqDiff, reduceCtorEq, tyX, List.length_map, hk, gM he, EqT.cells, Ty.refold, hw, Int.natCast_add, Int.natCast_one, Int.cast_ofNat_Int]
     refine ⟨(S2, t.2 + 1), ⟨by rw [het, ← List.append_assoc]; exact hc2, by simp only; omega⟩, (by simp only; omega), ?_⟩
     simp only [maskL, setsL, putsO, putO, List.set_cons_zero, List.set_cons_succ, Nat.reduceEqDiff, ↓reduceIte, Int.natCast_add, Int.natCast_one, Int.cast_ofNat_Int]
     refine Weak.sub ?_ ⟨rfl, rfl, rfl, rfl, rfl, rfl, rfl, rfl, rfl, rfl, rfl, rfl, rfl, rfl, rfl, rfl, trivial⟩ (by first | omega | (simp only; omega)) (by first | omega | (simp only; omega)) ?_ ?_
     · simp only [LeL, Le.refl, Le.any, and_self]
     · repeat' first | exact trivial | exact .any _ | exact .ptr (by omega) | exact .own (by omega) | exact .v _ _ | exact Und.data (EqT.dataSl _) | exact Und.data (dataInts _) | (refine ⟨?_, ?_⟩)
     · repeat' first | exact trivial | (with_reducible omega) | exact .any _ | exact .ptr (by omega) | exact .own (by omega) | exact .v _ _ | exact .map (by omega) | exact Und.oslG (by omega) | exact Und.rowI (nC_data _) | exact Und.rowI (iC_data _) | exact (fun p hp => .data (vC_data _ p hp)) | (refine ⟨?_, ?_⟩)
    ·
     have hk : t.2 = (rightsE fs).length := by have h9 := hb58; simp at h9; have := ht.2; omega
     obtain ⟨T, hT⟩ : ∃ T, T = t.1 := ⟨_, rfl⟩
     have hCT : CSt (((rightsE es).map EqT.p) ++ ((rightsE fs).map EqT.p)) T := by (have h9 := ht.1; rw [hk, List.take_of_length_le (by simp)] at h9; rw [hT]; exact h9)
     rw [← hT]
     refine AWp_exit ?_
     simp only [bF, bA, Nat.reduceEqDiff, ↓reduceIte]
     refine hK58 _ ?_; try clear hK58 K58
     refine AWp_seqK fun K79 hK79 => ?_
     refine AWp_seqK fun K80 hK80 => ?_
     refine AWp_region ?_
     refine aops_chunk 1 fun C81 hC81 => ?_
     simp only [bL, ↓bO, bS, bA, bF, ↓reduceIte, Nat.reduceEqDiff, reduceCtorEq, tyX, List.length_map]
     refine hC81 _ ?_; clear hC81 C81
     simp only [bL]
     refine aops_chunk 1 fun C82 hC82 => ?_
     simp only [bL, ↓bO, bS, bA, bF, ↓reduceIte, Nat.reduceEqDiff, reduceCtorEq, aCallV, tyX, List.length_map]
     refine CCalls.at (Err_c T) (.nil) (fun _ => .v _) (i0 := 7) (i1 := 6) (i2 := 15) (i3 := 5) (i4 := 4) (i5 := 12) (i6 := 13) (i7 := 14) (by decide) (by simp) ⟨rfl, rfl, rfl, rfl, rfl, rfl, rfl, rfl, trivial⟩ (fun Z9 u9 hZ9 => ?_)
     try dsimp only at hZ9
     simp only [cObsAt, List.zip_cons_cons, List.zip_nil_left, List.zip_nil_right, putsO, putO, Nat.reduceEqDiff, ↓reduceIte]
     obtain rfl : T = Z9 := hZ9.symm
     try simp only [bS, bA, bF]
     refine hC82 _ ?_; clear hC82 C82
     simp only [bL]
     simp only [↓bO, bS, bA, bF, ↓reduceIte, Nat.reduceEqDiff, reduceCtorEq, aBin, tyX, List.length_map]
     refine hK80 _ ?_; try clear hK80 K80
     refine AWp_cond rfl (fun hb75 => ?_) (fun hb75 => ?_)
     ·
      refine AWp_seqK fun K83 hK83 => ?_
      refine AWp_region ?_
      refine aops_chunk 1 fun C84 hC84 => ?_
      simp only [bL, ↓bO, bS, bA, bF, ↓reduceIte, Nat.reduceEqDiff, reduceCtorEq, aCallV, tyX, List.length_map]
      refine APure.call (awake12_pure) ?_
      try simp only [bS, bA, bF]
      refine hC84 _ ?_; clear hC84 C84
      simp only [bL]
      simp only [↓bO, bS, bA, bF, ↓reduceIte, Nat.reduceEqDiff, reduceCtorEq, tyX, List.length_map]
      refine hK83 _ ?_; try clear hK83 K83
      refine AWp_ret ?_
      try simp only [bF, retQ, aRes, tupOf, bS, bA]
      exact Le.refl _
     ·
      have hcT : T.clash = false := by (have h9 := hb75; cases hc : T.clash <;> simp [hc] at h9 ⊢)
      have hHT := hCT.good hcT
      have hcS : S.clash = false := by (cases hc : S.clash; rfl; exact absurd ((hCS.bad hc).more hoa) hHT.1.noClash)
      have hHS := hCS.good hcS
      have h64 : ∀ q ∈ S.G.V, is64 q.1 := fun q hq => vns_64 hHS.1.2.rel q.1 (by rw [← hHS.2]; exact List.mem_map.2 ⟨q, hq, rfl⟩)
      have hVl : S.G.V.length ≤ 160 := by (have h1 := congrArg List.length hHS.2; rw [List.length_map] at h1; have h2 := vns_len (eqF ((rightsE es).map EqT.p)).1; have h3 := hHS.1.2.rel.len; have h4 := hCS.len; omega)
      refine AWp_skip ?_
      try simp only [bF]
      refine hK79 _ ?_; try clear hK79 K79
      refine AWp_seqK fun K85 hK85 => ?_
      refine AWp_region ?_
      refine aops_chunk 1 fun C86 hC86 => ?_
      simp only [bL, ↓bO, bS, bA, bF, ↓reduceIte, Nat.reduceEqDiff, reduceCtorEq, tyX, List.length_map]
      refine hC86 _ ?_; clear hC86 C86
      simp only [bL]
      refine aops_chunk 1 fun C87 hC87 => ?_
      simp only [bL, ↓bO, bS, bA, bF, ↓reduceIte, Nat.reduceEqDiff, reduceCtorEq, aCallV, tyX, List.length_map]
      refine CCalls.at (CVars_c S h64 (by omega)) (.nil) (fun _ => dataInts _) (i0 := 3) (i1 := 2) (i2 := 11) (i3 := 1) (i4 := 0) (i5 := 8) (i6 := 9) (i7 := 10) (by decide) (by simp) ⟨rfl, rfl, rfl, rfl, rfl, rfl, rfl, rfl, trivial⟩ (fun Z9 u9 hZ9 => ?_)
      try dsimp only at hZ9
      simp only [cObsAt, List.zip_cons_cons, List.zip_nil_left, List.zip_nil_right, putsO, putO, Nat.reduceEqDiff, ↓reduceIte]
      obtain rfl : S = Z9 := hZ9.symm
      rw [if_neg (show ¬ (S.clash = true) from by rw [hcS]; decide)]
      obtain ⟨L, hL⟩ : ∃ L, L = sortI (S.G.V.map Prod.fst) := ⟨_, rfl⟩
      rw [← hL]
      have hLl : L.length ≤ 160 := by (rw [hL, List.length_mergeSort, List.length_map]; exact hVl)
      try simp only [bS, bA, bF]
      refine hC87 _ ?_; clear hC87 C87
      simp only [bL]
      simp only [↓bO, bS, bA, bF, ↓reduceIte, Nat.reduceEqDiff, reduceCtorEq, tyX, List.length_map]
      refine hK85 _ ?_; try clear hK85 K85
      refine AWp_seqK fun K88 hK88 => ?_
      refine AWp_seqK fun K89 hK89 => ?_
      refine AWp_region ?_
      simp only [↓bO, bS, bA, bF, ↓reduceIte, Nat.reduceEqDiff, reduceCtorEq, tyX, List.length_map]
      refine hK89 _ ?_; try clear hK89 K89
      refine AWp_block ?_
      refine AWp_loopM (σ := CS × CS × Nat) [false, false, false, false, false, true, true, false, false, true, true, false, false, false, false, false, false, false, false, false, false, false, false, false, false, false, false, false, false, false, false, false, false, false, false, false, false, false, false, false, false, false, false, false, false, false, false, false, false, false, false, false, false, false, false, false, false, false, false, false, false, false, false, false, false, false, false, false, false, false, false, false, false, false, false, false, false, false, false, false, false, false, false, false, false, false, false, false, false, false, false, false, false, false, false, false, false, false, false, false, false, false, false, false, false, false, false, false, false, false, false, false, false, false, false, false, false, false, false, false, false, false, false, false, false, false, false, false, false, false, false, false, false, false, false, false, false, false, false, false, false, false] (fun x => CSt ((rightsE es).map EqT.p) x.1 ∧ x.1.clash = false ∧ CSt (((rightsE es).map EqT.p) ++ ((rightsE fs).map EqT.p)) x.2.1 ∧ x.2.1.clash = false ∧ x.2.2 ≤ L.length) (fun x => [(10, .v (.int .i64 (x.2.2 : Int)))]) (fun x => [(3, .cells 119 [.v (.int .i64 x.1.steps), .ptr 2 0, .ptr 0 0, .own 10 x.1.W.length, .v (.bool x.1.clash)]), (2, .cells 91 [.osl 11 4 (x.1.G.N.map GNode.cells), .map 1]), (11, .tok 87 4 x.1.G.N.length), (1, .map (x.1.G.V.map vC)), (0, .cells 137 [.own 8 x.1.F.up.length, .own 9 x.1.F.rank.length, .v (.int .i64 x.1.F.sets), .v (.int .i64 x.1.F.steps)]), (8, .row 3 1 (x.1.F.up.map nC)), (9, .row 3 1 (x.1.F.rank.map intC)), (10, .row 3 1 (x.1.W.map intC)), (7, .cells 119 [.v (.int .i64 x.2.1.steps), .ptr 6 0, .ptr 4 0, .own 14 x.2.1.W.length, .v (.bool x.2.1.clash)]), (6, .cells 91 [.osl 15 4 (x.2.1.G.N.map GNode.cells), .map 5]), (15, .tok 87 4 x.2.1.G.N.length), (5, .map (x.2.1.G.V.map vC)), (4, .cells 137 [.own 12 x.2.1.F.up.length, .own 13 x.2.1.F.rank.length, .v (.int .i64 x.2.1.F.sets), .v (.int .i64 x.2.1.F.steps)]), (12, .row 3 1 (x.2.1.F.up.map nC)), (13, .row 3 1 (x.2.1.F.rank.map intC)), (14, .row 3 1 (x.2.1.W.map intC))]) (fun x => L.length - x.2.2) (S, T, 0) (⟨hCS, hcS, hCT, hcT, Nat.zero_le _⟩) ?_ (fun x hx => ?_)
      ·
       simp only [maskL, setsL, putsO, putO, bA, Nat.reduceEqDiff, ↓reduceIte]
       exact Weak.mk (by simp only [LeL, Le.refl, Le.any, Le.slNil, and_self, Int.natCast_add, Int.cast_ofNat_Int, Int.natCast_one]) (fun _ _ h => h) rfl rfl
      simp only [maskL, setsL, putsO, putO, bA, Nat.reduceEqDiff, ↓reduceIte]
      refine AWp_seqK fun K90 hK90 => ?_
      refine AWp_seqK fun K91 hK91 => ?_
      refine AWp_region ?_
      refine aops_chunk 1 fun C92 hC92 => ?_
      simp only [bL, ↓bO, bS, bA, bF, ↓reduceIte, Nat.reduceEqDiff, reduceCtorEq, tyX, List.length_map]
      refine hC92 _ ?_; clear hC92 C92
      simp only [bL]
      refine aops_chunk 1 fun C93 hC93 => ?_
      simp only [bL, ↓bO, bS, bA, bF, ↓reduceIte, Nat.reduceEqDiff, reduceCtorEq, tyX, List.length_map]
      refine hC93 _ ?_; clear hC93 C93
      simp only [bL]
      refine aops_chunk 1 fun C94 hC94 => ?_
      simp only [bL, ↓bO, bS, bA, bF, ↓reduceIte, Nat.reduceEqDiff, reduceCtorEq, getO, aLenX, aLen, ln28, List.length_map, tyX]
      refine hC94 _ ?_; clear hC94 C94
      simp only [bL]
      simp only [↓bO, bS, bA, bF, ↓reduceIte, Nat.reduceEqDiff, reduceCtorEq, aBin, tyX, List.length_map]
      refine hK91 _ ?_; try clear hK91 K91
      refine AWp_cond rfl (fun hb82 => ?_) (fun hb82 => ?_)
      ·
       have hka : x.2.2 < L.length := by simpa using hb82
       obtain ⟨a, ha⟩ : ∃ a, L[x.2.2]? = some a := ⟨_, List.getElem?_eq_getElem hka⟩
       have hwa : IntKind.i64.wrap ((x.2.2 : Int) + 1) = (x.2.2 : Int) + 1 := wrap_in (by omega) (by omega)
       refine AWp_skip ?_
       try simp only [bF]
       refine hK90 _ ?_; try clear hK90 K90
       refine AWp_seqK fun K95 hK95 => ?_
       refine AWp_block ?_
       refine AWp_seqK fun K96 hK96 => ?_
       refine AWp_seqK fun K97 hK97 => ?_
       refine AWp_region ?_
       simp only [↓bO, bS, bA, bF, ↓reduceIte, Nat.reduceEqDiff, reduceCtorEq, tyX, List.length_map, hka, gM ha, hwa, intC, Int.natCast_add, Int.natCast_one, Int.cast_ofNat_Int]
       refine hK97 _ ?_; try clear hK97 K97
       refine AWp_block ?_
       refine AWp_loopM (σ := CS × CS × Nat) [false, false, false, false, false, true, true, false, false, true, true, true, false, false, false, false, false, false, false, false, false, false, false, false, false, false, false, false, false, false, false, false, false, false, false, false, false, false, false, false, false, false, false, false, false, false, false, false, false, false, false, false, false, false, false, false, false, false, false, false, false, false, false, false, false, false, false, false, false, false, false, false, false, false, false, false, false, false, false, false, false, false, false, false, false, false, false, false, false, false, false, false, false, false, false, false, false, false, false, false, false, false, false, false, false, false, false, false, false, false, false, false, false, false, false, false, false, false, false, false, false, false, false, false, false, false, false, false, false, false, false, false, false, false, false, false, false, false, false, false, false, false] (fun y => CSt ((rightsE es).map EqT.p) y.1 ∧ y.1.clash = false ∧ CSt (((rightsE es).map EqT.p) ++ ((rightsE fs).map EqT.p)) y.2.1 ∧ y.2.1.clash = false ∧ y.2.2 ≤ L.length) (fun y => [(11, .v (.int .i64 (y.2.2 : Int)))]) (fun y => [(3, .cells 119 [.v (.int .i64 y.1.steps), .ptr 2 0, .ptr 0 0, .own 10 y.1.W.length, .v (.bool y.1.clash)]), (2, .cells 91 [.osl 11 4 (y.1.G.N.map GNode.cells), .map 1]), (11, .tok 87 4 y.1.G.N.length), (1, .map (y.1.G.V.map vC)), (0, .cells 137 [.own 8 y.1.F.up.length, .own 9 y.1.F.rank.length, .v (.int .i64 y.1.F.sets), .v (.int .i64 y.1.F.steps)]), (8, .row 3 1 (y.1.F.up.map nC)), (9, .row 3 1 (y.1.F.rank.map intC)), (10, .row 3 1 (y.1.W.map intC)), (7, .cells 119 [.v (.int .i64 y.2.1.steps), .ptr 6 0, .ptr 4 0, .own 14 y.2.1.W.length, .v (.bool y.2.1.clash)]), (6, .cells 91 [.osl 15 4 (y.2.1.G.N.map GNode.cells), .map 5]), (15, .tok 87 4 y.2.1.G.N.length), (5, .map (y.2.1.G.V.map vC)), (4, .cells 137 [.own 12 y.2.1.F.up.length, .own 13 y.2.1.F.rank.length, .v (.int .i64 y.2.1.F.sets), .v (.int .i64 y.2.1.F.steps)]), (12, .row 3 1 (y.2.1.F.up.map nC)), (13, .row 3 1 (y.2.1.F.rank.map intC)), (14, .row 3 1 (y.2.1.W.map intC))]) (fun y => L.length - y.2.2) (x.1, x.2.1, 0) (⟨hx.1, hx.2.1, hx.2.2.1, hx.2.2.2.1, Nat.zero_le _⟩) ?_ (fun y hy => ?_)
       ·
        simp only [maskL, setsL, putsO, putO, bA, Nat.reduceEqDiff, ↓reduceIte]
        exact Weak.mk (by simp only [LeL, Le.refl, Le.any, Le.slNil, and_self, Int.natCast_add, Int.cast_ofNat_Int, Int.natCast_one]) (fun _ _ h => h) rfl rfl
       simp only [maskL, setsL, putsO, putO, bA, Nat.reduceEqDiff, ↓reduceIte]
       refine AWp_seqK fun K98 hK98 => ?_
       refine AWp_seqK fun K99 hK99 => ?_
       refine AWp_region ?_
       refine aops_chunk 1 fun C100 hC100 => ?_
       simp only [bL, ↓bO, bS, bA, bF, ↓reduceIte, Nat.reduceEqDiff, reduceCtorEq, tyX, List.length_map, hka, gM ha, hwa, intC, Int.natCast_add, Int.natCast_one, Int.cast_ofNat_Int]
       refine hC100 _ ?_; clear hC100 C100
       simp only [bL]
       refine aops_chunk 1 fun C101 hC101 => ?_
       simp only [bL, ↓bO, bS, bA, bF, ↓reduceIte, Nat.reduceEqDiff, reduceCtorEq, tyX, List.length_map, hka, gM ha, hwa, intC, Int.natCast_add, Int.natCast_one, Int.cast_ofNat_Int]
       refine hC101 _ ?_; clear hC101 C101
       simp only [bL]
       refine aops_chunk 1 fun C102 hC102 => ?_
       simp only [bL, ↓bO, bS, bA, bF, ↓reduceIte, Nat.reduceEqDiff, reduceCtorEq, getO, aLenX, aLen, ln28, List.length_map, tyX, hka, gM ha, hwa, intC, Int.natCast_add, Int.natCast_one, Int.cast_ofNat_Int]
       refine hC102 _ ?_; clear hC102 C102
       simp only [bL]
       simp only [↓bO, bS, bA, bF, ↓reduceIte, Nat.reduceEqDiff, reduceCtorEq, aBin, tyX, List.length_map, hka, gM ha, hwa, intC, Int.natCast_add, Int.natCast_one, Int.cast_ofNat_Int]
       refine hK99 _ ?_; try clear hK99 K99
       refine AWp_cond rfl (fun hb88 => ?_) (fun hb88 => ?_)
       ·
        have hkb : y.2.2 < L.length := by simpa using hb88
        obtain ⟨b, hb⟩ : ∃ b, L[y.2.2]? = some b := ⟨_, List.getElem?_eq_getElem hkb⟩
        have hwb : IntKind.i64.wrap ((y.2.2 : Int) + 1) = (y.2.2 : Int) + 1 := wrap_in (by omega) (by omega)
        refine AWp_skip ?_
        try simp only [bF]
        refine hK98 _ ?_; try clear hK98 K98
        refine AWp_seqK fun K103 hK103 => ?_
        refine AWp_block ?_
        refine AWp_seqK fun K104 hK104 => ?_
        refine NAny_start 23 [9] rfl mixed ?_
        dsimp only
        refine NAny_takeK 0 rfl (by kernel_rfl) (by kernel_rfl) (by kernel_rfl) (fun _ _ h => h) (by kernel_rfl) (fun d h => by cases h; rfl) (by kernel_rfl) (G' := [9]) (by kernel_rfl) fun K105 hK105 => ?_
        simp only [nHead, isE, isSE, isV, ↓bO, bS, bA, bF, ↓reduceIte, Nat.reduceEqDiff, reduceCtorEq, tyX, List.length_map, hka, gM ha, hwa, intC, Int.natCast_add, Int.natCast_one, Int.cast_ofNat_Int, hkb, gM hb, hwb]
        refine hK105 _ ?_; try clear hK105 K105
        refine NAny_takeK 1 rfl (by kernel_rfl) (by kernel_rfl) (by kernel_rfl) (fun _ _ h => h) (by kernel_rfl) (fun d h => by cases h; rfl) (by kernel_rfl) (G' := [92, 9]) (by kernel_rfl) fun K106 hK106 => ?_
        simp only [nHead, isE, isSE, isV, ↓bO, bS, bA, bF, ↓reduceIte, Nat.reduceEqDiff, reduceCtorEq, tyX, List.length_map, hka, gM ha, hwa, intC, Int.natCast_add, Int.natCast_one, Int.cast_ofNat_Int, hkb, gM hb, hwb]
        refine hK106 _ ?_; try clear hK106 K106
        refine NAny_takeK 2 rfl (by kernel_rfl) (by kernel_rfl) (by kernel_rfl) (fun _ _ h => h) (by kernel_rfl) (fun d h => by cases h; rfl) (by kernel_rfl) (G' := [92, 9]) (by kernel_rfl) fun K107 hK107 => ?_
        simp only [nHead, isE, isSE, isV, ↓bO, bS, bA, bF, ↓reduceIte, Nat.reduceEqDiff, reduceCtorEq, tyX, List.length_map, hka, gM ha, hwa, intC, Int.natCast_add, Int.natCast_one, Int.cast_ofNat_Int, hkb, gM hb, hwb]
        refine hK107 _ ?_; try clear hK107 K107
        refine NAny_takeK 3 rfl (by kernel_rfl) (by kernel_rfl) (by kernel_rfl) (fun _ _ h => h) (by kernel_rfl) (fun d h => by cases h; rfl) (by kernel_rfl) (G' := [94, 92, 9]) (by kernel_rfl) fun K108 hK108 => ?_
        simp only [nHead, isE, isSE, isV, ↓bO, bS, bA, bF, ↓reduceIte, Nat.reduceEqDiff, reduceCtorEq, getO, aIndexA, es28, Int.natCast_nonneg, Int.ofNat_lt, Int.toNat_natCast, List.length_map, Int.le_refl, Int.toNat_zero, Int.toNat_one, Int.reduceLE, tyX, hka, gM ha, hwa, intC, Int.natCast_add, Int.natCast_one, Int.cast_ofNat_Int, hkb, gM hb, hwb]
        refine hK108 _ ?_; try clear hK108 K108
        refine NAny_takeK 4 rfl (by kernel_rfl) (by kernel_rfl) (by kernel_rfl) (fun _ _ h => h) (by kernel_rfl) (fun d h => by cases h; rfl) (by kernel_rfl) (G' := [95, 94, 92, 9]) (by kernel_rfl) fun K109 hK109 => ?_
        simp only [nHead, isE, isSE, isV, ↓bO, bS, bA, bF, ↓reduceIte, Nat.reduceEqDiff, reduceCtorEq, aLoad, ti3, getO, pack, bL, Nat.reduceAdd, Nat.reduceLeDiff, tyX, List.length_map, hka, gM ha, hwa, intC, Int.natCast_add, Int.natCast_one, Int.cast_ofNat_Int, hkb, gM hb, hwb]
        refine hK109 _ ?_; try clear hK109 K109
        refine NAny_takeK 5 rfl (by kernel_rfl) (by kernel_rfl) (by kernel_rfl) (fun _ _ h => h) (by kernel_rfl) (fun d h => by cases h; rfl) (by kernel_rfl) (G' := [96, 95, 94, 92, 9]) (by kernel_rfl) fun K110 hK110 => ?_
        simp only [nHead, isE, isSE, isV, ↓bO, bS, bA, bF, ↓reduceIte, Nat.reduceEqDiff, reduceCtorEq, tyX, List.length_map, hka, gM ha, hwa, intC, Int.natCast_add, Int.natCast_one, Int.cast_ofNat_Int, hkb, gM hb, hwb]
        refine hK110 _ ?_; try clear hK110 K110
        refine NAny_takeK 6 rfl (by kernel_rfl) (by kernel_rfl) (by kernel_rfl) (fun _ _ h => h) (by kernel_rfl) (fun d h => by cases h; rfl) (by kernel_rfl) (G' := [96, 95, 94, 92, 9]) (by kernel_rfl) fun K111 hK111 => ?_
        simp only [nHead, isE, isSE, isV, ↓bO, bS, bA, bF, ↓reduceIte, Nat.reduceEqDiff, reduceCtorEq, tyX, List.length_map, hka, gM ha, hwa, intC, Int.natCast_add, Int.natCast_one, Int.cast_ofNat_Int, hkb, gM hb, hwb]
        refine hK111 _ ?_; try clear hK111 K111
        refine NAny_takeK 7 rfl (by kernel_rfl) (by kernel_rfl) (by kernel_rfl) (fun _ _ h => h) (by kernel_rfl) (fun d h => by cases h; rfl) (by kernel_rfl) (G' := [98, 96, 95, 94, 92, 9]) (by kernel_rfl) fun K112 hK112 => ?_
        simp only [nHead, isE, isSE, isV, ↓bO, bS, bA, bF, ↓reduceIte, Nat.reduceEqDiff, reduceCtorEq, getO, aIndexA, es28, Int.natCast_nonneg, Int.ofNat_lt, Int.toNat_natCast, List.length_map, Int.le_refl, Int.toNat_zero, Int.toNat_one, Int.reduceLE, tyX, hka, gM ha, hwa, intC, Int.natCast_add, Int.natCast_one, Int.cast_ofNat_Int, hkb, gM hb, hwb]
        refine hK112 _ ?_; try clear hK112 K112
        refine NAny_takeK 8 rfl (by kernel_rfl) (by kernel_rfl) (by kernel_rfl) (fun _ _ h => h) (by kernel_rfl) (fun d h => by cases h; rfl) (by kernel_rfl) (G' := [99, 98, 96, 95, 94, 92, 9]) (by kernel_rfl) fun K113 hK113 => ?_
        simp only [nHead, isE, isSE, isV, ↓bO, bS, bA, bF, ↓reduceIte, Nat.reduceEqDiff, reduceCtorEq, aLoad, ti3, getO, pack, bL, Nat.reduceAdd, Nat.reduceLeDiff, tyX, List.length_map, hka, gM ha, hwa, intC, Int.natCast_add, Int.natCast_one, Int.cast_ofNat_Int, hkb, gM hb, hwb]
        refine hK113 _ ?_; try clear hK113 K113
        refine NAny_all1 (i := 9) (by kernel_rfl) rfl (fun d h => by cases h; rfl) ?_
        refine aAt_op rfl rfl fun K114 hK114 => ?_
        simp only [↓bO, bS, bA, bF, ↓reduceIte, Nat.reduceEqDiff, reduceCtorEq, aCallV, bL, tyX, List.length_map, hka, gM ha, hwa, intC, Int.natCast_add, Int.natCast_one, Int.cast_ofNat_Int, hkb, gM hb, hwb]
        refine CCalls.at (CSame_c y.1 (hy.1.good hy.2.1).1.2.w.c.f (hy.1.good hy.2.1).1.2.vin a b) (.cons (.v _) (.cons (.v _) .nil)) (fun _ => .v _) (i0 := 3) (i1 := 2) (i2 := 11) (i3 := 1) (i4 := 0) (i5 := 8) (i6 := 9) (i7 := 10) (by decide) (by simp) ⟨rfl, rfl, rfl, rfl, rfl, rfl, rfl, rfl, trivial⟩ (fun S1 r1 hXS1 => ?_)
        try dsimp only at hXS1
        simp only [cObsAt, List.zip_cons_cons, List.zip_nil_left, List.zip_nil_right, putsO, putO, Nat.reduceEqDiff, ↓reduceIte]
        have hCS1 := (hy.1).fsame hXS1.1 hXS1.2.1
        have hcS1 : S1.clash = false := by rw [hXS1.2.1]; exact hy.2.1
        have hR1 : SameR y.1 a b r1 := hXS1.2.2
        try simp only [bS, bA]
        refine hK114 _ ⟨⟨rfl, rfl, rfl, rfl, rfl, rfl, rfl, trivial⟩, ?_⟩
        try clear hK114 K114
        refine NAny_takeK 10 rfl (by kernel_rfl) (by kernel_rfl) (by kernel_rfl) (fun _ _ h => h) (by kernel_rfl) (fun d h => by cases h; rfl) (by kernel_rfl) (G' := [99, 98, 96, 95, 94, 92, 9]) (by kernel_rfl) fun K115 hK115 => ?_
        simp only [nHead, isE, isSE, isV, ↓bO, bS, bA, bF, ↓reduceIte, Nat.reduceEqDiff, reduceCtorEq, tyX, List.length_map, hka, gM ha, hwa, intC, Int.natCast_add, Int.natCast_one, Int.cast_ofNat_Int, hkb, gM hb, hwb]
        refine hK115 _ ?_; try clear hK115 K115
        refine NAny_case 101 rfl (fun hc101 => ?_) (fun hc101 => ?_)
        ·
         simp only [List.set_cons_zero, List.set_cons_succ]
         have hr1 : r1 = true := hc101
         refine NAny_takeK 11 rfl (by kernel_rfl) (by kernel_rfl) (by kernel_rfl) (fun _ _ h => h) (by kernel_rfl) (fun d h => by cases h; rfl) (by kernel_rfl) (G' := [99, 98, 96, 95, 94, 92, 9]) (by kernel_rfl) fun K116 hK116 => ?_
         simp only [nHead, isE, isSE, isV, ↓bO, bS, bA, bF, ↓reduceIte, Nat.reduceEqDiff, reduceCtorEq, bL, undef, tyX, List.length_map, hka, gM ha, hwa, intC, Int.natCast_add, Int.natCast_one, Int.cast_ofNat_Int, hkb, gM hb, hwb]
         refine hK116 _ ?_; try clear hK116 K116
         refine NAny_takeK 12 rfl (by kernel_rfl) (by kernel_rfl) (by kernel_rfl) (fun _ _ h => h) (by kernel_rfl) (fun d h => by cases h; rfl) (by kernel_rfl) (G' := [103, 99, 98, 96, 95, 94, 92, 9]) (by kernel_rfl) fun K117 hK117 => ?_
         simp only [nHead, isE, isSE, isV, ↓bO, bS, bA, bF, ↓reduceIte, Nat.reduceEqDiff, reduceCtorEq, bL, undef, tyX, List.length_map, hka, gM ha, hwa, intC, Int.natCast_add, Int.natCast_one, Int.cast_ofNat_Int, hkb, gM hb, hwb]
         refine hK117 _ ?_; try clear hK117 K117
         refine NAny_takeK 13 rfl (by kernel_rfl) (by kernel_rfl) (by kernel_rfl) (fun _ _ h => h) (by kernel_rfl) (fun d h => by cases h; rfl) (by kernel_rfl) (G' := [103, 99, 98, 96, 95, 94, 92, 9]) (by kernel_rfl) fun K118 hK118 => ?_
         simp only [nHead, isE, isSE, isV, ↓bO, bS, bA, bF, ↓reduceIte, Nat.reduceEqDiff, reduceCtorEq, bL, undef, tyX, List.length_map, hka, gM ha, hwa, intC, Int.natCast_add, Int.natCast_one, Int.cast_ofNat_Int, hkb, gM hb, hwb]
         refine hK118 _ ?_; try clear hK118 K118
         refine NAny_takeK 14 rfl (by kernel_rfl) (by kernel_rfl) (by kernel_rfl) (fun _ _ h => h) (by kernel_rfl) (fun d h => by cases h; rfl) (by kernel_rfl) (G' := [105, 103, 99, 98, 96, 95, 94, 92, 9]) (by kernel_rfl) fun K119 hK119 => ?_
         simp only [nHead, isE, isSE, isV, ↓bO, bS, bA, bF, ↓reduceIte, Nat.reduceEqDiff, reduceCtorEq, bL, undef, getO, aIndexA, es28, Int.natCast_nonneg, Int.ofNat_lt, Int.toNat_natCast, List.length_map, Int.le_refl, Int.toNat_zero, Int.toNat_one, Int.reduceLE, tyX, hka, gM ha, hwa, intC, Int.natCast_add, Int.natCast_one, Int.cast_ofNat_Int, hkb, gM hb, hwb]
         refine hK119 _ ?_; try clear hK119 K119
         refine NAny_takeK 15 rfl (by kernel_rfl) (by kernel_rfl) (by kernel_rfl) (fun _ _ h => h) (by kernel_rfl) (fun d h => by cases h; rfl) (by kernel_rfl) (G' := [106, 105, 103, 99, 98, 96, 95, 94, 92, 9]) (by kernel_rfl) fun K120 hK120 => ?_
         simp only [nHead, isE, isSE, isV, ↓bO, bS, bA, bF, ↓reduceIte, Nat.reduceEqDiff, reduceCtorEq, bL, undef, aLoad, ti3, getO, pack, Nat.reduceAdd, Nat.reduceLeDiff, tyX, List.length_map, hka, gM ha, hwa, intC, Int.natCast_add, Int.natCast_one, Int.cast_ofNat_Int, hkb, gM hb, hwb]
         refine hK120 _ ?_; try clear hK120 K120
         refine NAny_takeK 16 rfl (by kernel_rfl) (by kernel_rfl) (by kernel_rfl) (fun _ _ h => h) (by kernel_rfl) (fun d h => by cases h; rfl) (by kernel_rfl) (G' := [107, 106, 105, 103, 99, 98, 96, 95, 94, 92, 9]) (by kernel_rfl) fun K121 hK121 => ?_
         simp only [nHead, isE, isSE, isV, ↓bO, bS, bA, bF, ↓reduceIte, Nat.reduceEqDiff, reduceCtorEq, bL, undef, tyX, List.length_map, hka, gM ha, hwa, intC, Int.natCast_add, Int.natCast_one, Int.cast_ofNat_Int, hkb, gM hb, hwb]
         refine hK121 _ ?_; try clear hK121 K121
         refine NAny_takeK 17 rfl (by kernel_rfl) (by kernel_rfl) (by kernel_rfl) (fun _ _ h => h) (by kernel_rfl) (fun d h => by cases h; rfl) (by kernel_rfl) (G' := [107, 106, 105, 103, 99, 98, 96, 95, 94, 92, 9]) (by kernel_rfl) fun K122 hK122 => ?_
         simp only [nHead, isE, isSE, isV, ↓bO, bS, bA, bF, ↓reduceIte, Nat.reduceEqDiff, reduceCtorEq, bL, undef, tyX, List.length_map, hka, gM ha, hwa, intC, Int.natCast_add, Int.natCast_one, Int.cast_ofNat_Int, hkb, gM hb, hwb]
         refine hK122 _ ?_; try clear hK122 K122
         refine NAny_takeK 18 rfl (by kernel_rfl) (by kernel_rfl) (by kernel_rfl) (fun _ _ h => h) (by kernel_rfl) (fun d h => by cases h; rfl) (by kernel_rfl) (G' := [109, 107, 106, 105, 103, 99, 98, 96, 95, 94, 92, 9]) (by kernel_rfl) fun K123 hK123 => ?_
         simp only [nHead, isE, isSE, isV, ↓bO, bS, bA, bF, ↓reduceIte, Nat.reduceEqDiff, reduceCtorEq, bL, undef, getO, aIndexA, es28, Int.natCast_nonneg, Int.ofNat_lt, Int.toNat_natCast, List.length_map, Int.le_refl, Int.toNat_zero, Int.toNat_one, Int.reduceLE, tyX, hka, gM ha, hwa, intC, Int.natCast_add, Int.natCast_one, Int.cast_ofNat_Int, hkb, gM hb, hwb]
         refine hK123 _ ?_; try clear hK123 K123
         refine NAny_takeK 19 rfl (by kernel_rfl) (by kernel_rfl) (by kernel_rfl) (fun _ _ h => h) (by kernel_rfl) (fun d h => by cases h; rfl) (by kernel_rfl) (G' := [110, 109, 107, 106, 105, 103, 99, 98, 96, 95, 94, 92, 9]) (by kernel_rfl) fun K124 hK124 => ?_
         simp only [nHead, isE, isSE, isV, ↓bO, bS, bA, bF, ↓reduceIte, Nat.reduceEqDiff, reduceCtorEq, bL, undef, aLoad, ti3, getO, pack, Nat.reduceAdd, Nat.reduceLeDiff, tyX, List.length_map, hka, gM ha, hwa, intC, Int.natCast_add, Int.natCast_one, Int.cast_ofNat_Int, hkb, gM hb, hwb]
         refine hK124 _ ?_; try clear hK124 K124
         refine NAny_all1 (i := 20) (by kernel_rfl) rfl (fun d h => by cases h; rfl) ?_
         refine aAt_if rfl fun K125 hK125 => ?_
         simp only [↓bO, bS, bA, bF, ↓reduceIte, Nat.reduceEqDiff, reduceCtorEq, bL, undef, aCallV, tyX, List.length_map, hka, gM ha, hwa, intC, Int.natCast_add, Int.natCast_one, Int.cast_ofNat_Int, hkb, gM hb, hwb]
         refine CCalls.at (CSame_c y.2.1 (hy.2.2.1.good hy.2.2.2.1).1.2.w.c.f (hy.2.2.1.good hy.2.2.2.1).1.2.vin a b) (.cons (.v _) (.cons (.v _) .nil)) (fun _ => .v _) (i0 := 7) (i1 := 6) (i2 := 15) (i3 := 5) (i4 := 4) (i5 := 12) (i6 := 13) (i7 := 14) (by decide) (by simp) ⟨rfl, rfl, rfl, rfl, rfl, rfl, rfl, rfl, trivial⟩ (fun T1 t1 hXT1 => ?_)
         try dsimp only at hXT1
         simp only [cObsAt, List.zip_cons_cons, List.zip_nil_left, List.zip_nil_right, putsO, putO, Nat.reduceEqDiff, ↓reduceIte]
         have hCT1 := (hy.2.2.1).fsame hXT1.1 hXT1.2.1
         have hcT1 : T1.clash = false := by rw [hXT1.2.1]; exact hy.2.2.2.1
         have hT1 : SameR y.2.1 a b t1 := hXT1.2.2
         try simp only [bS, bA]
         refine hK125 _ ⟨⟨rfl, rfl, rfl, rfl, rfl, rfl, rfl, rfl, rfl, rfl, rfl, rfl, rfl, trivial⟩, ?_⟩
         try clear hK125 K125
         refine NAny_all1 (i := 21) (by kernel_rfl) rfl (fun d h => by cases h; rfl) ?_
         refine aAt_if rfl fun K126 hK126 => ?_
         simp only [↓bO, bS, bA, bF, ↓reduceIte, Nat.reduceEqDiff, reduceCtorEq, bL, undef, aUn, tyX, List.length_map, hka, gM ha, hwa, intC, Int.natCast_add, Int.natCast_one, Int.cast_ofNat_Int, hkb, gM hb, hwb]
         refine hK126 _ ⟨⟨rfl, rfl, rfl, rfl, rfl, rfl, rfl, rfl, rfl, rfl, rfl, rfl, rfl, trivial⟩, ?_⟩
         try clear hK126 K126
         refine NAny_all1 (i := 22) (by kernel_rfl) rfl (fun d h => by cases h; rfl) ?_
         refine aAt_op rfl rfl fun K127 hK127 => ?_
         simp only [↓bO, bS, bA, bF, ↓reduceIte, Nat.reduceEqDiff, reduceCtorEq, aBool, tyX, List.length_map, hka, gM ha, hwa, intC, Int.natCast_add, Int.natCast_one, Int.cast_ofNat_Int, hkb, gM hb, hwb]
         refine hK127 _ ⟨⟨rfl, rfl, rfl, rfl, rfl, rfl, rfl, rfl, rfl, rfl, rfl, rfl, rfl, trivial⟩, ?_⟩
         try clear hK127 K127
         refine NAny_done (by kernel_rfl) ?_
         simp only [bF]
         refine hK104 _ ?_; try clear hK104 K104
         refine AWp_cond rfl (fun hb113 => ?_) (fun hb113 => ?_)
         ·
          have ht1 : t1 = true := same_more ((hy.1.good hy.2.1).1) ((hy.2.2.1.good hy.2.2.2.1).1) hoa hR1 hT1 hr1
          exact absurd hb113 (by rw [ht1]; simp)
         ·
          refine AWp_skip ?_
          try simp only [bF]
          refine hK103 _ ?_; try clear hK103 K103
          refine AWp_region ?_
          refine aops_chunk 1 fun C128 hC128 => ?_
          simp only [bL, ↓bO, bS, bA, bF, ↓reduceIte, Nat.reduceEqDiff, reduceCtorEq, tyX, List.length_map, hka, gM ha, hwa, intC, Int.natCast_add, Int.natCast_one, Int.cast_ofNat_Int, hkb, gM hb, hwb]
          refine hC128 _ ?_; clear hC128 C128
          simp only [bL]
          refine aops_chunk 1 fun C129 hC129 => ?_
          simp only [bL, ↓bO, bS, bA, bF, ↓reduceIte, Nat.reduceEqDiff, reduceCtorEq, aBin, tyX, List.length_map, hka, gM ha, hwa, intC, Int.natCast_add, Int.natCast_one, Int.cast_ofNat_Int, hkb, gM hb, hwb]
          refine hC129 _ ?_; clear hC129 C129
          simp only [bL]
          simp only [↓bO, bS, bA, bF, ↓reduceIte, Nat.reduceEqDiff, reduceCtorEq, tyX, List.length_map, hka, gM ha, hwa, intC, Int.natCast_add, Int.natCast_one, Int.cast_ofNat_Int, hkb, gM hb, hwb]
          refine ⟨(S1, T1, y.2.2 + 1), ⟨hCS1, hcS1, hCT1, hcT1, by simp only; omega⟩, (by simp only; omega), ?_⟩
          simp only [maskL, setsL, putsO, putO, List.set_cons_zero, List.set_cons_succ, Nat.reduceEqDiff, ↓reduceIte, Int.natCast_add, Int.natCast_one, Int.cast_ofNat_Int]
          refine Weak.sub ?_ ⟨rfl, rfl, rfl, rfl, rfl, rfl, rfl, rfl, rfl, rfl, rfl, rfl, rfl, rfl, rfl, rfl, trivial⟩ (by first | omega | (simp only; omega)) (by first | omega | (simp only; omega)) ?_ ?_
          · simp only [LeL, Le.refl, Le.any, and_self]
          · repeat' first | exact trivial | exact .any _ | exact .ptr (by omega) | exact .own (by omega) | exact .v _ _ | exact Und.data (EqT.dataSl _) | exact Und.data (dataInts _) | (refine ⟨?_, ?_⟩)
          · repeat' first | exact trivial | (with_reducible omega) | exact .any _ | exact .ptr (by omega) | exact .own (by omega) | exact .v _ _ | exact .map (by omega) | exact Und.oslG (by omega) | exact Und.rowI (nC_data _) | exact Und.rowI (iC_data _) | exact (fun p hp => .data (vC_data _ p hp)) | (refine ⟨?_, ?_⟩)
        ·
         simp only [List.set_cons_zero, List.set_cons_succ]
         refine NAny_skipK 11 rfl (by kernel_rfl) (by kernel_rfl) (by kernel_rfl) (fun _ _ h => h) (by kernel_rfl) (fun d h => by cases h; rfl) ?_
         simp only [bS, bA]
         refine NAny_skipK 12 rfl (by kernel_rfl) (by kernel_rfl) (by kernel_rfl) (fun _ _ h => h) (by kernel_rfl) (fun d h => by cases h; rfl) ?_
         simp only [bS, bA]
         refine NAny_skipK 13 rfl (by kernel_rfl) (by kernel_rfl) (by kernel_rfl) (fun _ _ h => h) (by kernel_rfl) (fun d h => by cases h; rfl) ?_
         simp only [bS, bA]
         refine NAny_skipK 14 rfl (by kernel_rfl) (by kernel_rfl) (by kernel_rfl) (fun _ _ h => h) (by kernel_rfl) (fun d h => by cases h; rfl) ?_
         simp only [bS, bA]
         refine NAny_skipK 15 rfl (by kernel_rfl) (by kernel_rfl) (by kernel_rfl) (fun _ _ h => h) (by kernel_rfl) (fun d h => by cases h; rfl) ?_
         simp only [bS, bA]
         refine NAny_skipK 16 rfl (by kernel_rfl) (by kernel_rfl) (by kernel_rfl) (fun _ _ h => h) (by kernel_rfl) (fun d h => by cases h; rfl) ?_
         simp only [bS, bA]
         refine NAny_skipK 17 rfl (by kernel_rfl) (by kernel_rfl) (by kernel_rfl) (fun _ _ h => h) (by kernel_rfl) (fun d h => by cases h; rfl) ?_
         simp only [bS, bA]
         refine NAny_skipK 18 rfl (by kernel_rfl) (by kernel_rfl) (by kernel_rfl) (fun _ _ h => h) (by kernel_rfl) (fun d h => by cases h; rfl) ?_
         simp only [bS, bA]
         refine NAny_skipK 19 rfl (by kernel_rfl) (by kernel_rfl) (by kernel_rfl) (fun _ _ h => h) (by kernel_rfl) (fun d h => by cases h; rfl) ?_
         simp only [bS, bA]
         refine NAny_skipK 20 rfl (by kernel_rfl) (by kernel_rfl) (by kernel_rfl) (fun _ _ h => h) (by kernel_rfl) (fun d h => by cases h; rfl) ?_
         simp only [bS, bA]
         refine NAny_skipK 21 rfl (by kernel_rfl) (by kernel_rfl) (by kernel_rfl) (fun _ _ h => h) (by kernel_rfl) (fun d h => by cases h; rfl) ?_
         simp only [bS, bA]
         refine NAny_all1 (i := 22) (by kernel_rfl) rfl (fun d h => by cases h; rfl) ?_
         refine aAt_op rfl rfl fun K130 hK130 => ?_
         simp only [↓bO, bS, bA, bF, ↓reduceIte, Nat.reduceEqDiff, reduceCtorEq, aBool, tyX, List.length_map, hka, gM ha, hwa, intC, Int.natCast_add, Int.natCast_one, Int.cast_ofNat_Int, hkb, gM hb, hwb]
         refine hK130 _ ⟨⟨rfl, rfl, rfl, rfl, rfl, rfl, rfl, trivial⟩, ?_⟩
         try clear hK130 K130
         refine NAny_done (by kernel_rfl) ?_
         simp only [bF]
         refine hK104 _ ?_; try clear hK104 K104
         refine AWp_cond (b := false) (by first | exact rfl | exact congrArg (fun b => AV.v (.bool b)) hb113) (fun h => (by cases h)) (fun _ => ?_)
         refine AWp_skip ?_
         try simp only [bF]
         refine hK103 _ ?_; try clear hK103 K103
         refine AWp_region ?_
         refine aops_chunk 1 fun C131 hC131 => ?_
         simp only [bL, ↓bO, bS, bA, bF, ↓reduceIte, Nat.reduceEqDiff, reduceCtorEq, tyX, List.length_map, hka, gM ha, hwa, intC, Int.natCast_add, Int.natCast_one, Int.cast_ofNat_Int, hkb, gM hb, hwb]
         refine hC131 _ ?_; clear hC131 C131
         simp only [bL]
         refine aops_chunk 1 fun C132 hC132 => ?_
         simp only [bL, ↓bO, bS, bA, bF, ↓reduceIte, Nat.reduceEqDiff, reduceCtorEq, aBin, tyX, List.length_map, hka, gM ha, hwa, intC, Int.natCast_add, Int.natCast_one, Int.cast_ofNat_Int, hkb, gM hb, hwb]
         refine hC132 _ ?_; clear hC132 C132
         simp only [bL]
         simp only [↓bO, bS, bA, bF, ↓reduceIte, Nat.reduceEqDiff, reduceCtorEq, tyX, List.length_map, hka, gM ha, hwa, intC, Int.natCast_add, Int.natCast_one, Int.cast_ofNat_Int, hkb, gM hb, hwb]
         refine ⟨(S1, y.2.1, y.2.2 + 1), ⟨hCS1, hcS1, hy.2.2.1, hy.2.2.2.1, by simp only; omega⟩, (by simp only; omega), ?_⟩
         simp only [maskL, setsL, putsO, putO, List.set_cons_zero, List.set_cons_succ, Nat.reduceEqDiff, ↓reduceIte, Int.natCast_add, Int.natCast_one, Int.cast_ofNat_Int]
         refine Weak.sub ?_ ⟨rfl, rfl, rfl, rfl, rfl, rfl, rfl, rfl, rfl, rfl, rfl, rfl, rfl, rfl, rfl, rfl, trivial⟩ (by first | omega | (simp only; omega)) (by first | omega | (simp only; omega)) ?_ ?_
         · simp only [LeL, Le.refl, Le.any, and_self]
         · repeat' first | exact trivial | exact .any _ | exact .ptr (by omega) | exact .own (by omega) | exact .v _ _ | exact Und.data (EqT.dataSl _) | exact Und.data (dataInts _) | (refine ⟨?_, ?_⟩)
         · repeat' first | exact trivial | (with_reducible omega) | exact .any _ | exact .ptr (by omega) | exact .own (by omega) | exact .v _ _ | exact .map (by omega) | exact Und.oslG (by omega) | exact Und.rowI (nC_data _) | exact Und.rowI (iC_data _) | exact (fun p hp => .data (vC_data _ p hp)) | (refine ⟨?_, ?_⟩)
       ·
        refine AWp_exit ?_
        simp only [bF, bA, Nat.reduceEqDiff, ↓reduceIte]
        refine hK96 _ ?_; try clear hK96 K96
        refine AWp_seqK fun K133 hK133 => ?_
        refine NAny_start 22 [9] rfl mixed ?_
        dsimp only
        refine NAny_takeK 0 rfl (by kernel_rfl) (by kernel_rfl) (by kernel_rfl) (fun _ _ h => h) (by kernel_rfl) (fun d h => by cases h; rfl) (by kernel_rfl) (G' := [9]) (by kernel_rfl) fun K134 hK134 => ?_
        simp only [nHead, isE, isSE, isV, ↓bO, bS, bA, bF, ↓reduceIte, Nat.reduceEqDiff, reduceCtorEq, tyX, List.length_map, hka, gM ha, hwa, intC, Int.natCast_add, Int.natCast_one, Int.cast_ofNat_Int]
        refine hK134 _ ?_; try clear hK134 K134
        refine NAny_takeK 1 rfl (by kernel_rfl) (by kernel_rfl) (by kernel_rfl) (fun _ _ h => h) (by kernel_rfl) (fun d h => by cases h; rfl) (by kernel_rfl) (G' := [115, 9]) (by kernel_rfl) fun K135 hK135 => ?_
        simp only [nHead, isE, isSE, isV, ↓bO, bS, bA, bF, ↓reduceIte, Nat.reduceEqDiff, reduceCtorEq, tyX, List.length_map, hka, gM ha, hwa, intC, Int.natCast_add, Int.natCast_one, Int.cast_ofNat_Int]
        refine hK135 _ ?_; try clear hK135 K135
        refine NAny_takeK 2 rfl (by kernel_rfl) (by kernel_rfl) (by kernel_rfl) (fun _ _ h => h) (by kernel_rfl) (fun d h => by cases h; rfl) (by kernel_rfl) (G' := [115, 9]) (by kernel_rfl) fun K136 hK136 => ?_
        simp only [nHead, isE, isSE, isV, ↓bO, bS, bA, bF, ↓reduceIte, Nat.reduceEqDiff, reduceCtorEq, tyX, List.length_map, hka, gM ha, hwa, intC, Int.natCast_add, Int.natCast_one, Int.cast_ofNat_Int]
        refine hK136 _ ?_; try clear hK136 K136
        refine NAny_takeK 3 rfl (by kernel_rfl) (by kernel_rfl) (by kernel_rfl) (fun _ _ h => h) (by kernel_rfl) (fun d h => by cases h; rfl) (by kernel_rfl) (G' := [117, 115, 9]) (by kernel_rfl) fun K137 hK137 => ?_
        simp only [nHead, isE, isSE, isV, ↓bO, bS, bA, bF, ↓reduceIte, Nat.reduceEqDiff, reduceCtorEq, getO, aIndexA, es28, Int.natCast_nonneg, Int.ofNat_lt, Int.toNat_natCast, List.length_map, Int.le_refl, Int.toNat_zero, Int.toNat_one, Int.reduceLE, tyX, hka, gM ha, hwa, intC, Int.natCast_add, Int.natCast_one, Int.cast_ofNat_Int]
        refine hK137 _ ?_; try clear hK137 K137
        refine NAny_takeK 4 rfl (by kernel_rfl) (by kernel_rfl) (by kernel_rfl) (fun _ _ h => h) (by kernel_rfl) (fun d h => by cases h; rfl) (by kernel_rfl) (G' := [118, 117, 115, 9]) (by kernel_rfl) fun K138 hK138 => ?_
        simp only [nHead, isE, isSE, isV, ↓bO, bS, bA, bF, ↓reduceIte, Nat.reduceEqDiff, reduceCtorEq, aLoad, ti3, getO, pack, bL, Nat.reduceAdd, Nat.reduceLeDiff, tyX, List.length_map, hka, gM ha, hwa, intC, Int.natCast_add, Int.natCast_one, Int.cast_ofNat_Int]
        refine hK138 _ ?_; try clear hK138 K138
        refine NAny_all1 (i := 5) (by kernel_rfl) rfl (fun d h => by cases h; rfl) ?_
        refine aAt_op rfl rfl fun K139 hK139 => ?_
        simp only [↓bO, bS, bA, bF, ↓reduceIte, Nat.reduceEqDiff, reduceCtorEq, aCallV, bL, tyX, List.length_map, hka, gM ha, hwa, intC, Int.natCast_add, Int.natCast_one, Int.cast_ofNat_Int]
        refine CCalls.at (CKind_c y.1 (hy.1.good hy.2.1).1.2.w.c.f (hy.1.good hy.2.1).1.2.w.c.fl (hy.1.good hy.2.1).1.2.w.c.wr (hy.1.good hy.2.1).1.2.vin a) (.cons (.v _) .nil) (fun _ => .v _) (i0 := 3) (i1 := 2) (i2 := 11) (i3 := 1) (i4 := 0) (i5 := 8) (i6 := 9) (i7 := 10) (by decide) (by simp) ⟨rfl, rfl, rfl, rfl, rfl, rfl, rfl, rfl, trivial⟩ (fun S1 k1 hXS1 => ?_)
        try dsimp only at hXS1
        simp only [cObsAt, List.zip_cons_cons, List.zip_nil_left, List.zip_nil_right, putsO, putO, Nat.reduceEqDiff, ↓reduceIte]
        have hCS1 := (hy.1).fsame hXS1.1 hXS1.2.1
        have hcS1 : S1.clash = false := by rw [hXS1.2.1]; exact hy.2.1
        have hK1 : KindR y.1 a k1 := hXS1.2.2
        have hHy := (hy.1.good hy.2.1).1
        have hHz := (hy.2.2.1.good hy.2.2.2.1).1
        have hHs1 := (hCS1.good hcS1).1
        try simp only [bS, bA]
        refine hK139 _ ⟨⟨rfl, rfl, rfl, rfl, trivial⟩, ?_⟩
        try clear hK139 K139
        refine NAny_all1 (i := 6) (by kernel_rfl) rfl (fun d h => by cases h; rfl) ?_
        refine aAt_op rfl rfl fun K140 hK140 => ?_
        simp only [↓bO, bS, bA, bF, ↓reduceIte, Nat.reduceEqDiff, reduceCtorEq, aBin, tyX, List.length_map, hka, gM ha, hwa, intC, Int.natCast_add, Int.natCast_one, Int.cast_ofNat_Int]
        refine hK140 _ ⟨⟨rfl, rfl, rfl, rfl, trivial⟩, ?_⟩
        try clear hK140 K140
        refine NAny_takeK 7 rfl (by kernel_rfl) (by kernel_rfl) (by kernel_rfl) (fun _ _ h => h) (by kernel_rfl) (fun d h => by cases h; rfl) (by kernel_rfl) (G' := [118, 117, 115, 9]) (by kernel_rfl) fun K141 hK141 => ?_
        simp only [nHead, isE, isSE, isV, ↓bO, bS, bA, bF, ↓reduceIte, Nat.reduceEqDiff, reduceCtorEq, tyX, List.length_map, hka, gM ha, hwa, intC, Int.natCast_add, Int.natCast_one, Int.cast_ofNat_Int]
        refine hK141 _ ?_; try clear hK141 K141
        refine NAny_case 121 rfl (fun hc121 => ?_) (fun hc121 => ?_)
        ·
         simp only [List.set_cons_zero, List.set_cons_succ]
         have hk1 : k1 ≠ 0 := by simpa using hc121
         refine NAny_takeK 8 rfl (by kernel_rfl) (by kernel_rfl) (by kernel_rfl) (fun _ _ h => h) (by kernel_rfl) (fun d h => by cases h; rfl) (by kernel_rfl) (G' := [118, 117, 115, 9]) (by kernel_rfl) fun K142 hK142 => ?_
         simp only [nHead, isE, isSE, isV, ↓bO, bS, bA, bF, ↓reduceIte, Nat.reduceEqDiff, reduceCtorEq, bL, undef, tyX, List.length_map, hka, gM ha, hwa, intC, Int.natCast_add, Int.natCast_one, Int.cast_ofNat_Int]
         refine hK142 _ ?_; try clear hK142 K142
         refine NAny_takeK 9 rfl (by kernel_rfl) (by kernel_rfl) (by kernel_rfl) (fun _ _ h => h) (by kernel_rfl) (fun d h => by cases h; rfl) (by kernel_rfl) (G' := [123, 118, 117, 115, 9]) (by kernel_rfl) fun K143 hK143 => ?_
         simp only [nHead, isE, isSE, isV, ↓bO, bS, bA, bF, ↓reduceIte, Nat.reduceEqDiff, reduceCtorEq, bL, undef, tyX, List.length_map, hka, gM ha, hwa, intC, Int.natCast_add, Int.natCast_one, Int.cast_ofNat_Int]
         refine hK143 _ ?_; try clear hK143 K143
         refine NAny_takeK 10 rfl (by kernel_rfl) (by kernel_rfl) (by kernel_rfl) (fun _ _ h => h) (by kernel_rfl) (fun d h => by cases h; rfl) (by kernel_rfl) (G' := [123, 118, 117, 115, 9]) (by kernel_rfl) fun K144 hK144 => ?_
         simp only [nHead, isE, isSE, isV, ↓bO, bS, bA, bF, ↓reduceIte, Nat.reduceEqDiff, reduceCtorEq, bL, undef, tyX, List.length_map, hka, gM ha, hwa, intC, Int.natCast_add, Int.natCast_one, Int.cast_ofNat_Int]
         refine hK144 _ ?_; try clear hK144 K144
         refine NAny_takeK 11 rfl (by kernel_rfl) (by kernel_rfl) (by kernel_rfl) (fun _ _ h => h) (by kernel_rfl) (fun d h => by cases h; rfl) (by kernel_rfl) (G' := [125, 123, 118, 117, 115, 9]) (by kernel_rfl) fun K145 hK145 => ?_
         simp only [nHead, isE, isSE, isV, ↓bO, bS, bA, bF, ↓reduceIte, Nat.reduceEqDiff, reduceCtorEq, bL, undef, getO, aIndexA, es28, Int.natCast_nonneg, Int.ofNat_lt, Int.toNat_natCast, List.length_map, Int.le_refl, Int.toNat_zero, Int.toNat_one, Int.reduceLE, tyX, hka, gM ha, hwa, intC, Int.natCast_add, Int.natCast_one, Int.cast_ofNat_Int]
         refine hK145 _ ?_; try clear hK145 K145
         refine NAny_takeK 12 rfl (by kernel_rfl) (by kernel_rfl) (by kernel_rfl) (fun _ _ h => h) (by kernel_rfl) (fun d h => by cases h; rfl) (by kernel_rfl) (G' := [126, 125, 123, 118, 117, 115, 9]) (by kernel_rfl) fun K146 hK146 => ?_
         simp only [nHead, isE, isSE, isV, ↓bO, bS, bA, bF, ↓reduceIte, Nat.reduceEqDiff, reduceCtorEq, bL, undef, aLoad, ti3, getO, pack, Nat.reduceAdd, Nat.reduceLeDiff, tyX, List.length_map, hka, gM ha, hwa, intC, Int.natCast_add, Int.natCast_one, Int.cast_ofNat_Int]
         refine hK146 _ ?_; try clear hK146 K146
         refine NAny_takeK 14 rfl (by kernel_rfl) (by kernel_rfl) (by kernel_rfl) (fun _ _ h => h) (by kernel_rfl) (fun d h => by cases h; rfl) (by kernel_rfl) (G' := [126, 125, 123, 118, 117, 115, 9]) (by kernel_rfl) fun K147 hK147 => ?_
         simp only [nHead, isE, isSE, isV, ↓bO, bS, bA, bF, ↓reduceIte, Nat.reduceEqDiff, reduceCtorEq, bL, undef, tyX, List.length_map, hka, gM ha, hwa, intC, Int.natCast_add, Int.natCast_one, Int.cast_ofNat_Int]
         refine hK147 _ ?_; try clear hK147 K147
         refine NAny_takeK 15 rfl (by kernel_rfl) (by kernel_rfl) (by kernel_rfl) (fun _ _ h => h) (by kernel_rfl) (fun d h => by cases h; rfl) (by kernel_rfl) (G' := [129, 126, 125, 123, 118, 117, 115, 9]) (by kernel_rfl) fun K148 hK148 => ?_
         simp only [nHead, isE, isSE, isV, ↓bO, bS, bA, bF, ↓reduceIte, Nat.reduceEqDiff, reduceCtorEq, bL, undef, tyX, List.length_map, hka, gM ha, hwa, intC, Int.natCast_add, Int.natCast_one, Int.cast_ofNat_Int]
         refine hK148 _ ?_; try clear hK148 K148
         refine NAny_takeK 16 rfl (by kernel_rfl) (by kernel_rfl) (by kernel_rfl) (fun _ _ h => h) (by kernel_rfl) (fun d h => by cases h; rfl) (by kernel_rfl) (G' := [129, 126, 125, 123, 118, 117, 115, 9]) (by kernel_rfl) fun K149 hK149 => ?_
         simp only [nHead, isE, isSE, isV, ↓bO, bS, bA, bF, ↓reduceIte, Nat.reduceEqDiff, reduceCtorEq, bL, undef, tyX, List.length_map, hka, gM ha, hwa, intC, Int.natCast_add, Int.natCast_one, Int.cast_ofNat_Int]
         refine hK149 _ ?_; try clear hK149 K149
         refine NAny_takeK 17 rfl (by kernel_rfl) (by kernel_rfl) (by kernel_rfl) (fun _ _ h => h) (by kernel_rfl) (fun d h => by cases h; rfl) (by kernel_rfl) (G' := [131, 129, 126, 125, 123, 118, 117, 115, 9]) (by kernel_rfl) fun K150 hK150 => ?_
         simp only [nHead, isE, isSE, isV, ↓bO, bS, bA, bF, ↓reduceIte, Nat.reduceEqDiff, reduceCtorEq, bL, undef, getO, aIndexA, es28, Int.natCast_nonneg, Int.ofNat_lt, Int.toNat_natCast, List.length_map, Int.le_refl, Int.toNat_zero, Int.toNat_one, Int.reduceLE, tyX, hka, gM ha, hwa, intC, Int.natCast_add, Int.natCast_one, Int.cast_ofNat_Int]
         refine hK150 _ ?_; try clear hK150 K150
         refine NAny_takeK 18 rfl (by kernel_rfl) (by kernel_rfl) (by kernel_rfl) (fun _ _ h => h) (by kernel_rfl) (fun d h => by cases h; rfl) (by kernel_rfl) (G' := [132, 131, 129, 126, 125, 123, 118, 117, 115, 9]) (by kernel_rfl) fun K151 hK151 => ?_
         simp only [nHead, isE, isSE, isV, ↓bO, bS, bA, bF, ↓reduceIte, Nat.reduceEqDiff, reduceCtorEq, bL, undef, aLoad, ti3, getO, pack, Nat.reduceAdd, Nat.reduceLeDiff, tyX, List.length_map, hka, gM ha, hwa, intC, Int.natCast_add, Int.natCast_one, Int.cast_ofNat_Int]
         refine hK151 _ ?_; try clear hK151 K151
         refine NAny_all1 (i := 13) (by kernel_rfl) rfl (fun d h => by cases h; rfl) ?_
         refine aAt_if rfl fun K152 hK152 => ?_
         simp only [↓bO, bS, bA, bF, ↓reduceIte, Nat.reduceEqDiff, reduceCtorEq, bL, undef, aCallV, tyX, List.length_map, hka, gM ha, hwa, intC, Int.natCast_add, Int.natCast_one, Int.cast_ofNat_Int]
         refine CCalls.at (CKind_c y.2.1 (hy.2.2.1.good hy.2.2.2.1).1.2.w.c.f (hy.2.2.1.good hy.2.2.2.1).1.2.w.c.fl (hy.2.2.1.good hy.2.2.2.1).1.2.w.c.wr (hy.2.2.1.good hy.2.2.2.1).1.2.vin a) (.cons (.v _) .nil) (fun _ => .v _) (i0 := 7) (i1 := 6) (i2 := 15) (i3 := 5) (i4 := 4) (i5 := 12) (i6 := 13) (i7 := 14) (by decide) (by simp) ⟨rfl, rfl, rfl, rfl, rfl, rfl, rfl, rfl, trivial⟩ (fun T1 k2 hXT1 => ?_)
         try dsimp only at hXT1
         simp only [cObsAt, List.zip_cons_cons, List.zip_nil_left, List.zip_nil_right, putsO, putO, Nat.reduceEqDiff, ↓reduceIte]
         have hCT1 := (hy.2.2.1).fsame hXT1.1 hXT1.2.1
         have hcT1 : T1.clash = false := by rw [hXT1.2.1]; exact hy.2.2.2.1
         have hK2 : KindR y.2.1 a k2 := hXT1.2.2
         try simp only [bS, bA]
         refine hK152 _ ⟨⟨rfl, rfl, rfl, rfl, rfl, rfl, rfl, rfl, rfl, rfl, trivial⟩, ?_⟩
         try clear hK152 K152
         refine NAny_all1 (i := 19) (by kernel_rfl) rfl (fun d h => by cases h; rfl) ?_
         refine aAt_if rfl fun K153 hK153 => ?_
         simp only [↓bO, bS, bA, bF, ↓reduceIte, Nat.reduceEqDiff, reduceCtorEq, bL, undef, aCallV, tyX, List.length_map, hka, gM ha, hwa, intC, Int.natCast_add, Int.natCast_one, Int.cast_ofNat_Int]
         refine CCalls.at (CKind_c S1 (hCS1.good hcS1).1.2.w.c.f (hCS1.good hcS1).1.2.w.c.fl (hCS1.good hcS1).1.2.w.c.wr (hCS1.good hcS1).1.2.vin a) (.cons (.v _) .nil) (fun _ => .v _) (i0 := 3) (i1 := 2) (i2 := 11) (i3 := 1) (i4 := 0) (i5 := 8) (i6 := 9) (i7 := 10) (by decide) (by simp) ⟨rfl, rfl, rfl, rfl, rfl, rfl, rfl, rfl, trivial⟩ (fun S2 k3 hXS2 => ?_)
         try dsimp only at hXS2
         simp only [cObsAt, List.zip_cons_cons, List.zip_nil_left, List.zip_nil_right, putsO, putO, Nat.reduceEqDiff, ↓reduceIte]
         have hCS2 := (hCS1).fsame hXS2.1 hXS2.2.1
         have hcS2 : S2.clash = false := by rw [hXS2.2.1]; exact hcS1
         have hK3 : KindR S1 a k3 := hXS2.2.2
         try simp only [bS, bA]
         refine hK153 _ ⟨⟨rfl, rfl, rfl, rfl, rfl, rfl, rfl, rfl, rfl, rfl, trivial⟩, ?_⟩
         try clear hK153 K153
         refine NAny_all1 (i := 20) (by kernel_rfl) rfl (fun d h => by cases h; rfl) ?_
         refine aAt_if rfl fun K154 hK154 => ?_
         simp only [↓bO, bS, bA, bF, ↓reduceIte, Nat.reduceEqDiff, reduceCtorEq, bL, undef, aBin, tyX, List.length_map, hka, gM ha, hwa, intC, Int.natCast_add, Int.natCast_one, Int.cast_ofNat_Int]
         refine hK154 _ ⟨⟨rfl, rfl, rfl, rfl, rfl, rfl, rfl, rfl, rfl, rfl, trivial⟩, ?_⟩
         try clear hK154 K154
         refine NAny_all1 (i := 21) (by kernel_rfl) rfl (fun d h => by cases h; rfl) ?_
         refine aAt_op rfl rfl fun K155 hK155 => ?_
         simp only [↓bO, bS, bA, bF, ↓reduceIte, Nat.reduceEqDiff, reduceCtorEq, aBool, tyX, List.length_map, hka, gM ha, hwa, intC, Int.natCast_add, Int.natCast_one, Int.cast_ofNat_Int]
         refine hK155 _ ⟨⟨rfl, rfl, rfl, rfl, rfl, rfl, rfl, rfl, rfl, rfl, trivial⟩, ?_⟩
         try clear hK155 K155
         refine NAny_done (by kernel_rfl) ?_
         simp only [bF]
         refine hK133 _ ?_; try clear hK133 K133
         refine AWp_cond rfl (fun hb135 => ?_) (fun hb135 => ?_)
         ·
          have e2 : k2 = k1 := kind_more hHy hHz hoa hK1 hK2 hk1
          have e3 : k3 = k1 := kind_more hHy (k := []) (by rw [List.append_nil]; exact hHs1) (by rw [List.append_nil]; exact hol) hK1 hK3 hk1
          exact absurd hb135 (by rw [e2, e3]; simp)
         ·
          refine AWp_skip ?_
          try simp only [bF]
          refine hK95 _ ?_; try clear hK95 K95
          refine AWp_region ?_
          refine aops_chunk 1 fun C156 hC156 => ?_
          simp only [bL, ↓bO, bS, bA, bF, ↓reduceIte, Nat.reduceEqDiff, reduceCtorEq, tyX, List.length_map, hka, gM ha, hwa, intC, Int.natCast_add, Int.natCast_one, Int.cast_ofNat_Int]
          refine hC156 _ ?_; clear hC156 C156
          simp only [bL]
          refine aops_chunk 1 fun C157 hC157 => ?_
          simp only [bL, ↓bO, bS, bA, bF, ↓reduceIte, Nat.reduceEqDiff, reduceCtorEq, aBin, tyX, List.length_map, hka, gM ha, hwa, intC, Int.natCast_add, Int.natCast_one, Int.cast_ofNat_Int]
          refine hC157 _ ?_; clear hC157 C157
          simp only [bL]
          simp only [↓bO, bS, bA, bF, ↓reduceIte, Nat.reduceEqDiff, reduceCtorEq, tyX, List.length_map, hka, gM ha, hwa, intC, Int.natCast_add, Int.natCast_one, Int.cast_ofNat_Int]
          refine ⟨(S2, T1, x.2.2 + 1), ⟨hCS2, hcS2, hCT1, hcT1, by simp only; omega⟩, (by simp only; omega), ?_⟩
          simp only [maskL, setsL, putsO, putO, List.set_cons_zero, List.set_cons_succ, Nat.reduceEqDiff, ↓reduceIte, Int.natCast_add, Int.natCast_one, Int.cast_ofNat_Int]
          refine Weak.sub ?_ ⟨rfl, rfl, rfl, rfl, rfl, rfl, rfl, rfl, rfl, rfl, rfl, rfl, rfl, rfl, rfl, rfl, trivial⟩ (by first | omega | (simp only; omega)) (by first | omega | (simp only; omega)) ?_ ?_
          · simp only [LeL, Le.refl, Le.any, and_self]
          · repeat' first | exact trivial | exact .any _ | exact .ptr (by omega) | exact .own (by omega) | exact .v _ _ | exact Und.data (EqT.dataSl _) | exact Und.data (dataInts _) | (refine ⟨?_, ?_⟩)
          · repeat' first | exact trivial | (with_reducible omega) | exact .any _ | exact .ptr (by omega) | exact .own (by omega) | exact .v _ _ | exact .map (by omega) | exact Und.oslG (by omega) | exact Und.rowI (nC_data _) | exact Und.rowI (iC_data _) | exact (fun p hp => .data (vC_data _ p hp)) | (refine ⟨?_, ?_⟩)
        ·
         simp only [List.set_cons_zero, List.set_cons_succ]
         refine NAny_skipK 8 rfl (by kernel_rfl) (by kernel_rfl) (by kernel_rfl) (fun _ _ h => h) (by kernel_rfl) (fun d h => by cases h; rfl) ?_
         simp only [bS, bA]
         refine NAny_skipK 9 rfl (by kernel_rfl) (by kernel_rfl) (by kernel_rfl) (fun _ _ h => h) (by kernel_rfl) (fun d h => by cases h; rfl) ?_
         simp only [bS, bA]
         refine NAny_skipK 10 rfl (by kernel_rfl) (by kernel_rfl) (by kernel_rfl) (fun _ _ h => h) (by kernel_rfl) (fun d h => by cases h; rfl) ?_
         simp only [bS, bA]
         refine NAny_skipK 11 rfl (by kernel_rfl) (by kernel_rfl) (by kernel_rfl) (fun _ _ h => h) (by kernel_rfl) (fun d h => by cases h; rfl) ?_
         simp only [bS, bA]
         refine NAny_skipK 12 rfl (by kernel_rfl) (by kernel_rfl) (by kernel_rfl) (fun _ _ h => h) (by kernel_rfl) (fun d h => by cases h; rfl) ?_
         simp only [bS, bA]
         refine NAny_skipK 13 rfl (by kernel_rfl) (by kernel_rfl) (by kernel_rfl) (fun _ _ h => h) (by kernel_rfl) (fun d h => by cases h; rfl) ?_
         simp only [bS, bA]
         refine NAny_skipK 14 rfl (by kernel_rfl) (by kernel_rfl) (by kernel_rfl) (fun _ _ h => h) (by kernel_rfl) (fun d h => by cases h; rfl) ?_
         simp only [bS, bA]
         refine NAny_skipK 15 rfl (by kernel_rfl) (by kernel_rfl) (by kernel_rfl) (fun _ _ h => h) (by kernel_rfl) (fun d h => by cases h; rfl) ?_
         simp only [bS, bA]
         refine NAny_skipK 16 rfl (by kernel_rfl) (by kernel_rfl) (by kernel_rfl) (fun _ _ h => h) (by kernel_rfl) (fun d h => by cases h; rfl) ?_
         simp only [bS, bA]
         refine NAny_skipK 17 rfl (by kernel_rfl) (by kernel_rfl) (by kernel_rfl) (fun _ _ h => h) (by kernel_rfl) (fun d h => by cases h; rfl) ?_
         simp only [bS, bA]
         refine NAny_skipK 18 rfl (by kernel_rfl) (by kernel_rfl) (by kernel_rfl) (fun _ _ h => h) (by kernel_rfl) (fun d h => by cases h; rfl) ?_
         simp only [bS, bA]
         refine NAny_skipK 19 rfl (by kernel_rfl) (by kernel_rfl) (by kernel_rfl) (fun _ _ h => h) (by kernel_rfl) (fun d h => by cases h; rfl) ?_
         simp only [bS, bA]
         refine NAny_skipK 20 rfl (by kernel_rfl) (by kernel_rfl) (by kernel_rfl) (fun _ _ h => h) (by kernel_rfl) (fun d h => by cases h; rfl) ?_
         simp only [bS, bA]
         refine NAny_all1 (i := 21) (by kernel_rfl) rfl (fun d h => by cases h; rfl) ?_
         refine aAt_op rfl rfl fun K158 hK158 => ?_
         simp only [↓bO, bS, bA, bF, ↓reduceIte, Nat.reduceEqDiff, reduceCtorEq, aBool, tyX, List.length_map, hka, gM ha, hwa, intC, Int.natCast_add, Int.natCast_one, Int.cast_ofNat_Int]
         refine hK158 _ ⟨⟨rfl, rfl, rfl, rfl, trivial⟩, ?_⟩
         try clear hK158 K158
         refine NAny_done (by kernel_rfl) ?_
         simp only [bF]
         refine hK133 _ ?_; try clear hK133 K133
         refine AWp_cond (b := false) (by first | exact rfl | exact congrArg (fun b => AV.v (.bool b)) hb135) (fun h => (by cases h)) (fun _ => ?_)
         refine AWp_skip ?_
         try simp only [bF]
         refine hK95 _ ?_; try clear hK95 K95
         refine AWp_region ?_
         refine aops_chunk 1 fun C159 hC159 => ?_
         simp only [bL, ↓bO, bS, bA, bF, ↓reduceIte, Nat.reduceEqDiff, reduceCtorEq, tyX, List.length_map, hka, gM ha, hwa, intC, Int.natCast_add, Int.natCast_one, Int.cast_ofNat_Int]
         refine hC159 _ ?_; clear hC159 C159
         simp only [bL]
         refine aops_chunk 1 fun C160 hC160 => ?_
         simp only [bL, ↓bO, bS, bA, bF, ↓reduceIte, Nat.reduceEqDiff, reduceCtorEq, aBin, tyX, List.length_map, hka, gM ha, hwa, intC, Int.natCast_add, Int.natCast_one, Int.cast_ofNat_Int]
         refine hC160 _ ?_; clear hC160 C160
         simp only [bL]
         simp only [↓bO, bS, bA, bF, ↓reduceIte, Nat.reduceEqDiff, reduceCtorEq, tyX, List.length_map, hka, gM ha, hwa, intC, Int.natCast_add, Int.natCast_one, Int.cast_ofNat_Int]
         refine ⟨(S1, y.2.1, x.2.2 + 1), ⟨hCS1, hcS1, hy.2.2.1, hy.2.2.2.1, by simp only; omega⟩, (by simp only; omega), ?_⟩
         simp only [maskL, setsL, putsO, putO, List.set_cons_zero, List.set_cons_succ, Nat.reduceEqDiff, ↓reduceIte, Int.natCast_add, Int.natCast_one, Int.cast_ofNat_Int]
         refine Weak.sub ?_ ⟨rfl, rfl, rfl, rfl, rfl, rfl, rfl, rfl, rfl, rfl, rfl, rfl, rfl, rfl, rfl, rfl, trivial⟩ (by first | omega | (simp only; omega)) (by first | omega | (simp only; omega)) ?_ ?_
         · simp only [LeL, Le.refl, Le.any, and_self]
         · repeat' first | exact trivial | exact .any _ | exact .ptr (by omega) | exact .own (by omega) | exact .v _ _ | exact Und.data (EqT.dataSl _) | exact Und.data (dataInts _) | (refine ⟨?_, ?_⟩)
         · repeat' first | exact trivial | (with_reducible omega) | exact .any _ | exact .ptr (by omega) | exact .own (by omega) | exact .v _ _ | exact .map (by omega) | exact Und.oslG (by omega) | exact Und.rowI (nC_data _) | exact Und.rowI (iC_data _) | exact (fun p hp => .data (vC_data _ p hp)) | (refine ⟨?_, ?_⟩)
      ·
       refine AWp_exit ?_
       simp only [bF, bA, Nat.reduceEqDiff, ↓reduceIte]
       refine hK88 _ ?_; try clear hK88 K88
       refine AWp_seqK fun K161 hK161 => ?_
       refine AWp_region ?_
       refine aops_chunk 1 fun C162 hC162 => ?_
       simp only [bL, ↓bO, bS, bA, bF, ↓reduceIte, Nat.reduceEqDiff, reduceCtorEq, tyX, List.length_map]
       refine hC162 _ ?_; clear hC162 C162
       simp only [bL]
       refine aops_chunk 1 fun C163 hC163 => ?_
       simp only [bL, ↓bO, bS, bA, bF, ↓reduceIte, Nat.reduceEqDiff, reduceCtorEq, aCallV, tyX, List.length_map]
       refine CCalls.at (Err_c x.1) (.nil) (fun _ => .v _) (i0 := 3) (i1 := 2) (i2 := 11) (i3 := 1) (i4 := 0) (i5 := 8) (i6 := 9) (i7 := 10) (by decide) (by simp) ⟨rfl, rfl, rfl, rfl, rfl, rfl, rfl, rfl, trivial⟩ (fun Z9 u9 hZ9 => ?_)
       try dsimp only at hZ9
       simp only [cObsAt, List.zip_cons_cons, List.zip_nil_left, List.zip_nil_right, putsO, putO, Nat.reduceEqDiff, ↓reduceIte]
       have hZ8 : Z9 = x.1 := hZ9
       have hxc := hx.2.1
       try simp only [bS, bA, bF]
       refine hC163 _ ?_; clear hC163 C163
       simp only [bL]
       refine aops_chunk 1 fun C164 hC164 => ?_
       simp only [bL, ↓bO, bS, bA, bF, ↓reduceIte, Nat.reduceEqDiff, reduceCtorEq, aBin, tyX, List.length_map, hxc]
       refine hC164 _ ?_; clear hC164 C164
       simp only [bL]
       refine aops_chunk 1 fun C165 hC165 => ?_
       simp only [bL, ↓bO, bS, bA, bF, ↓reduceIte, Nat.reduceEqDiff, reduceCtorEq, tyX, List.length_map, hxc]
       refine hC165 _ ?_; clear hC165 C165
       simp only [bL]
       refine aops_case 139 rfl (fun hc139 => ?_) (fun hc139 => ?_)
       ·
        simp only [List.set_cons_zero, List.set_cons_succ]
        refine aops_chunk 1 fun C166 hC166 => ?_
        simp only [bL, ↓bO, bS, bA, bF, ↓reduceIte, Nat.reduceEqDiff, reduceCtorEq, undef, aCallV, tyX, List.length_map, hxc]
        refine APure.call (awake12_pure) ?_
        try simp only [bS, bA, bF]
        refine hC166 _ ?_; clear hC166 C166
        simp only [bL]
        refine aops_chunk 1 fun C167 hC167 => ?_
        simp only [bL, ↓bO, bS, bA, bF, ↓reduceIte, Nat.reduceEqDiff, reduceCtorEq, aBool, tyX, List.length_map, hxc]
        refine hC167 _ ?_; clear hC167 C167
        simp only [bL]
        simp only [↓bO, bS, bA, bF, ↓reduceIte, Nat.reduceEqDiff, reduceCtorEq, tyX, List.length_map, hxc]
        refine hK161 _ ?_; try clear hK161 K161
        refine AWp_ret ?_
        try simp only [bF, retQ, aRes, tupOf, bS, bA]
        exact Le.refl _
       ·
        simp only [List.set_cons_zero, List.set_cons_succ]
        exact absurd hc139 (by simp [hxc])
end Go.Proofs.Ytohdoloalolpfaa
namespace Go.Proofs.Ytohdoloalolpfaa.unifyMore
open Go Go.ChangeShapes Go.WideShapes Go.ChangeAt Go.RowKit
set_option linter.unusedVariables false
theorem own : ownKnob Try.prog.godebug = none := by kernel_rfl
theorem laidOut : laidOutB Try.prog = true := by kernel_rfl
theorem cT : Try.prog.cellsOf 32 = 3 := by kernel_rfl
theorem cI : Try.prog.cellsOf 3 = 1 := by kernel_rfl
theorem cS : Try.prog.cellsOf 22 = 1 := by kernel_rfl
section
variable {H : Type} {enc : TypeId × Value → H} {w : World} {base : Nat} {spare : Nat → Bool} {held : Bool}
theorem rdT (fuel : Nat) : Rd enc Try.prog w base spare held Env.none fuel 32 Ty.cells :=
  rd_ty Try.underlying32 cT rfl rfl rfl rfl rfl rfl Try.underlying3 cI Try.underlying22 cS fuel
theorem rdS (fuel : Nat) : Rd enc Try.prog w base spare held Env.none fuel 22 (fun xs : List Ty => [.sl 3 (xs.map Ty.cells)]) :=
  rd_slice Try.underlying22 cT (by omega) Ty.cells_len fun n _ => rdT n
theorem cP : Try.prog.cellsOf 71 = 2 := by kernel_rfl
theorem cE : Try.prog.cellsOf 73 = 8 := by kernel_rfl
theorem rdE (fuel : Nat) : Rd enc Try.prog w base spare held Env.none fuel 73 EqT.cells :=
  rd_eq Try.underlying73 cE cT cP rfl rfl rfl rfl rfl rfl rdT (fun n => rd_two Try.underlying71 cP rfl rfl rfl rfl Try.underlying3 cI n) fuel
theorem rdEs (fuel : Nat) : Rd enc Try.prog w base spare held Env.none fuel 61 (fun xs : List EqT => [.sl 8 (xs.map EqT.cells)]) :=
  rd_slice Try.underlying61 cE (by omega) (fun _ => rfl) fun n _ => rdE n
end
set_option maxRecDepth 100000 in
theorem lifted (os : Go.Os) (started : os.Started) (H : Type) (enc : TypeId × Value → H) :
    ReturnsInHanded {} Try.checked os 9 .any (Rows.unifyMoreSpec.pre6 enc Try.prog Try.f9 Rows.unifyMoreRow.domain false) (Rows.unifyMoreSpec.post enc Try.prog Try.f9 false true false false) := by
  refine returnsInHanded_of_change (C := Try.checked) own started (by kernel_rfl) Try.func9
    (ChangeSpec.witness6 (enc := enc) (C := Try.checked) false ⟨#[], #[.slice none 0 0, .slice none 0 0], []⟩ 8 (by kernel_rfl) (by kernel_rfl) (by kernel_rfl) (by kernel_rfl)) ?_
  intro W base args ds gs before hval0 hW hcnd _
  have hval : ∀ (j : Nat) t v, Try.f9.params[j]? = some t → args[j]? = some v → Value.okWide Try.prog W .any base t v := hval0
  have hW' := hW
  obtain ⟨p, q, hA0, hV, rfl, hfz, hnd⟩ := hW
  have hA : DataW.TrodAll enc Try.prog W 0 (fun _ => true) true Try.f9.params.toList args.toList ds p := hA0
  rw [Try.params9] at hA hval
  obtain ⟨v0, vs0, d0, ds0, p0, q0, hargs, rfl, rfl, h0, r0⟩ := trodAll_cons hA
  obtain ⟨v1, vs1, d1, ds1, p1, q1, rfl, rfl, rfl, h1, r1⟩ := trodAll_cons r0
  obtain ⟨rfl, rfl, rfl⟩ := trodAll_nil r1
  obtain rfl : args = #[v0, v1] := by cases args; simp_all
  obtain ⟨rfl, rfl⟩ := trodVars_none hV
  have k0 := h0
  have lt0 : ∀ x ∈ p0, x.block < W.heap.size := by obtain ⟨m, hm⟩ := k0; exact DataW.trod_lt m _ _ _ hm
  obtain ⟨b0, len0, cap0, rfl⟩ := okWide_slice Try.underlying61 (hval 0 61 v0 rfl rfl)
  obtain ⟨P0, hr0⟩ : ∃ P : List EqT, Rp Env.none (fun _ _ => False) W (.sl 8 (P.map EqT.cells)) (.slice b0 len0 cap0) := by
    obtain ⟨m, hm⟩ := h0
    obtain ⟨P, _, hr⟩ := rdEs m _ _ hm
    exact ⟨P, hr 0 _ _ rfl rfl⟩
  have k1 := h1
  have lt1 : ∀ x ∈ p1, x.block < W.heap.size := by obtain ⟨m, hm⟩ := k1; exact DataW.trod_lt m _ _ _ hm
  obtain ⟨b1, len1, cap1, rfl⟩ := okWide_slice Try.underlying61 (hval 1 61 v1 rfl rfl)
  obtain ⟨P1, hr1⟩ : ∃ P : List EqT, Rp Env.none (fun _ _ => False) W (.sl 8 (P.map EqT.cells)) (.slice b1 len1 cap1) := by
    obtain ⟨m, hm⟩ := h1
    obtain ⟨P, _, hr⟩ := rdEs m _ _ hm
    exact ⟨P, hr 0 _ _ rfl rfl⟩
  clear hA0 hval0
  refine ((UnifyMore_pure P0 P1).calls (w := W) rfl ?_).mono fun e W' ⟨he, bel⟩ => ?_
  · intro i c u hc hu
    match i with
    | 0 => simp at hc hu; subst hc; subst hu; exact hr0
    | 1 => simp at hc hu; subst hc; subst hu; exact hr1
    | i + 2 => simp at hc
  subst he
  exact ⟨_, rfl, _, _, _, [], _, [], hW', trodAll_mk1 (shut_bool Try.underlying4 _), (trodAll_cons_mk (Below.trod laidOut (by kernel_rfl) (of_decide_eq_true (by kernel_rfl)) k0 bel lt0) (trodAll_cons_mk (Below.trod laidOut (by kernel_rfl) (of_decide_eq_true (by kernel_rfl)) k1 bel lt1) trodAll_mk0)), rfl, bel.frame _, fun h => by cases h⟩
theorem over : Rows.unifyMoreRow.holds Try.pinned (OpenSpec.ofChange Rows.unifyMoreSpec) :=
  OpenClaim.holds_of_wide 9 Try.f9 rfl rfl rfl rfl rfl rfl rfl ⟨rfl, rfl, rfl, rfl, rfl⟩ rfl rfl rfl rfl rfl (by kernel_rfl) Try.func9 (by kernel_rfl)
    (of_decide_eq_true (by kernel_rfl)) (by unfold Func.isWrapper; first | (rw [if_pos (by decide +kernel)]; kernel_rfl) | (rw [if_neg (by decide +kernel)]; exact ⟨rfl, rfl⟩))
    (fun os started H enc _ => lifted os started H enc)
end Go.Proofs.Ytohdoloalolpfaa.unifyMore
namespace Go.Proofs.Ytohdoloalolpfaa
theorem unifyMore_proved : Rows.UnifyMoreSaid := unifyMore.over
#print axioms unifyMore_proved
end Go.Proofs.Ytohdoloalolpfaa
