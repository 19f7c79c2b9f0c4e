/- Texts of the abstract walk, of the contracts and of the plain laws, packed (part 40 of 42): Ur3 Ur4 Un9. Conditions: none. -/
import Derived.Test.YtohdoloalolpfaaPk39
namespace Go.Proofs.Ytohdoloalolpfaa
open Go Go.RowKit
set_option maxRecDepth 100000
set_option maxHeartbeats 1000000
set_option linter.unusedSimpArgs false
set_option linter.unusedVariables false
attribute [local irreducible] aops dRun
theorem sumP_mem : ∀ {l : List (Ty × Ty)} {e : Ty × Ty}, e ∈ l → e.1.cnt + e.2.cnt ≤ sumP l
  | x :: l, e, h => by
    simp only [sumP]
    rcases List.mem_cons.1 h with rfl | h
    · omega
    · have := sumP_mem h; omega
theorem Close_at (es : List EqT) (hsum : sumP (es.map EqT.p) ≤ 160) (hr : ∀ e ∈ (es.map EqT.p), (e.1.right && e.2.right) = true) {os : Os} {nx : Nat} {Q : AV → Os → Nat → Prop}
    (hq : ∀ c, ColF (eqF (es.map EqT.p)).1 (nat2 (eqF (es.map EqT.p)).2) c → (clB (eqF (es.map EqT.p)).1 c = true ↔ Clashes (es.map EqT.p)) → Q (.agg [.sl 4 ((eqF (es.map EqT.p)).1.map RNode.cells), .sl 1 (c.map intC)]) os nx) : ACalls Try.prog 70 [.sl 8 (es.map EqT.cells)] os nx Q := by
  obtain ⟨⟨G, hG⟩, hP⟩ := eqF_ok (es.map EqT.p) fun e he => by
    have h1 := hr e he
    have h2 := sumP_mem he
    simp only [Bool.and_eq_true] at h1
    exact ⟨h1.1, h1.2, by omega, by omega⟩
  have h := Close_c es _ _ rfl hsum hG.mok hP fun x hx => hG.parts8 hx
  refine ACalls.atE (σ := List Int) (C := fun c => ColF (eqF (es.map EqT.p)).1 (nat2 (eqF (es.map EqT.p)).2) c) (R := fun c => .agg [.sl 4 ((eqF (es.map EqT.p)).1.map RNode.cells), .sl 1 (c.map intC)]) (R' := fun c => .agg [.sl 4 ((eqF (es.map EqT.p)).1.map RNode.cells), .sl 1 (c.map intC)]) (obs := []) (obs' := []) (obs1 := fun _ => []) (obs1' := fun _ => []) [] h rfl (fun _ => rfl) (by simp) (by simp) ⟨.data (EqT.dataSl es), trivial⟩ (fun c => .data (RNode.oneData _ _)) trivial trivial (fun _ => trivial) (fun c hc => hq c hc (hc.clash (fun e he => ?_) hG.mok))
  simp only [nat2, List.mem_map] at he
  obtain ⟨p, hp, rfl⟩ := he
  have := hP p hp
  simp only
  omega
theorem Clash_pure (M : List RNode) (c : List Int) (hcl : c.length = M.length) (hMl : M.length ≤ 1048576) : APure Try.prog 71 [.agg [.sl 4 (M.map RNode.cells), .sl 1 (c.map intC)]] (.v (.bool (clB M c))) := by
 refine APure.mkL (.cons (RNode.oneData M c) .nil) (.v _) ?_
 refine ACalls_intro Try.func71 (by kernel_rfl) rfl (by rw [Try.ntmps71]; simp) (fun hm => ?_)
 simp only [Try.ntmps71, Try.results71, List.length_cons, List.length_nil, Nat.reduceAdd, Nat.reduceSub, List.replicate_succ, List.replicate_zero, List.cons_append, List.nil_append]
 refine AWp_seqK fun K1 hK1 => ?_
 refine AWp_region ?_
 refine aops_chunk 1 fun C2 hC2 => ?_
 simp only [bL, ↓bO, bS, bA, bF, ↓reduceIte, Nat.reduceEqDiff, reduceCtorEq, tyX, List.length_map]
 refine hC2 _ ?_; clear hC2 C2
 simp only [bL]
 simp only [↓bO, bS, bA, bF, ↓reduceIte, Nat.reduceEqDiff, reduceCtorEq, tyX, List.length_map]
 refine hK1 _ ?_; try clear hK1 K1
 refine AWp_seqK fun K3 hK3 => ?_
 refine AWp_seqK fun K4 hK4 => ?_
 refine AWp_region ?_
 simp only [↓bO, bS, bA, bF, ↓reduceIte, Nat.reduceEqDiff, reduceCtorEq, tyX, List.length_map]
 refine hK4 _ ?_; try clear hK4 K4
 refine AWp_block ?_
 refine AWp_loopM (σ := Nat) [false, true, false, true, false, false, false, false, false, false, false, false, false, false, false, false, false, false, false, false, false, false, false, false, false, false, false, false, false, false, false, false, false, false, false, false, false, false, false, false, false, false, false, false, false, false, false, false, false, false, false, false, false, false, false, false, false, false, false, false, false, false, false, false, false, false, false, false, false, false] (fun s => s ≤ M.length ∧ NoCl M c s 0) (fun s => [(3, .v (.int .i64 (s : Int)))]) (fun s => []) (fun s => M.length - s) 0 (⟨Nat.zero_le _, NoCl.zero _ _⟩) ?_ (fun s hs => ?_)
 ·
  simp only [maskL, setsL, putsO, putO, bA, Nat.reduceEqDiff, ↓reduceIte]
  exact Weak.mk (by simp only [LeL, Le.refl, Le.any, Le.slNil, and_self, Int.natCast_add, Int.cast_ofNat_Int, Int.natCast_one]) (fun _ _ h => h) rfl rfl
 simp only [maskL, setsL, putsO, putO, bA, Nat.reduceEqDiff, ↓reduceIte]
 refine AWp_seqK fun K5 hK5 => ?_
 refine AWp_seqK fun K6 hK6 => ?_
 refine AWp_region ?_
 refine aops_chunk 1 fun C7 hC7 => ?_
 simp only [bL, ↓bO, bS, bA, bF, ↓reduceIte, Nat.reduceEqDiff, reduceCtorEq, tyX, List.length_map]
 refine hC7 _ ?_; clear hC7 C7
 simp only [bL]
 refine aops_chunk 1 fun C8 hC8 => ?_
 simp only [bL, ↓bO, bS, bA, bF, ↓reduceIte, Nat.reduceEqDiff, reduceCtorEq, aField, fo111_0, Nat.reduceAdd, tyX, List.length_map]
 refine hC8 _ ?_; clear hC8 C8
 simp only [bL]
 refine aops_chunk 1 fun C9 hC9 => ?_
 simp only [bL, ↓bO, bS, bA, bF, ↓reduceIte, Nat.reduceEqDiff, reduceCtorEq, aLoad, ti27, getO, pack, Nat.reduceAdd, Nat.reduceLeDiff, tyX, List.length_map]
 refine hC9 _ ?_; clear hC9 C9
 simp only [bL]
 refine aops_chunk 1 fun C10 hC10 => ?_
 simp only [bL, ↓bO, bS, bA, bF, ↓reduceIte, Nat.reduceEqDiff, reduceCtorEq, getO, aLenX, aLen, ln27, List.length_map, tyX]
 refine hC10 _ ?_; clear hC10 C10
 simp only [bL]
 simp only [↓bO, bS, bA, bF, ↓reduceIte, Nat.reduceEqDiff, reduceCtorEq, aBin, tyX, List.length_map]
 refine hK6 _ ?_; try clear hK6 K6
 refine AWp_cond rfl (fun hb11 => ?_) (fun hb11 => ?_)
 ·
  have hki : s < M.length := by simpa using hb11
  obtain ⟨x, hxm⟩ : ∃ x, M[s]? = some x := ⟨_, List.getElem?_eq_getElem hki⟩
  obtain ⟨ci, hci⟩ : ∃ z, c[s]? = some z := ⟨_, List.getElem?_eq_getElem (by omega)⟩
  have hw1 : IntKind.i64.wrap ((s : Int) + 1) = (s : Int) + 1 := wrap_in (by omega) (by omega)
  refine AWp_skip ?_
  try simp only [bF]
  refine hK5 _ ?_; try clear hK5 K5
  refine AWp_seqK fun K11 hK11 => ?_
  refine AWp_block ?_
  refine AWp_seqK fun K12 hK12 => ?_
  refine AWp_region ?_
  simp only [↓bO, bS, bA, bF, ↓reduceIte, Nat.reduceEqDiff, reduceCtorEq, tyX, List.length_map, hki, hcl, gM hxm, gM hci, hw1, RNode.cells, Int.natCast_add, Int.natCast_one, Int.cast_ofNat_Int, intC]
  refine hK12 _ ?_; try clear hK12 K12
  refine AWp_block ?_
  refine AWp_loopM (σ := Nat) [false, true, false, true, true, false, false, false, false, false, false, false, false, false, false, false, false, false, false, false, false, false, false, false, false, false, false, false, false, false, false, false, false, false, false, false, false, false, false, false, false, false, false, false, false, false, false, false, false, false, false, false, false, false, false, false, false, false, false, false, false, false, false, false, false, false, false, false, false, false] (fun v => v ≤ s ∧ NoCl M c s v) (fun v => [(4, .v (.int .i64 (v : Int)))]) (fun v => []) (fun v => s - v) 0 (⟨Nat.zero_le _, hs.2⟩) ?_ (fun v hv => ?_)
  ·
   simp only [maskL, setsL, putsO, putO, bA, Nat.reduceEqDiff, ↓reduceIte]
   exact Weak.mk (by simp only [LeL, Le.refl, Le.any, Le.slNil, and_self, Int.natCast_add, Int.cast_ofNat_Int, Int.natCast_one]) (fun _ _ h => h) rfl rfl
  simp only [maskL, setsL, putsO, putO, bA, Nat.reduceEqDiff, ↓reduceIte]
  refine AWp_seqK fun K13 hK13 => ?_
  refine AWp_seqK fun K14 hK14 => ?_
  refine AWp_region ?_
  refine aops_chunk 1 fun C15 hC15 => ?_
  simp only [bL, ↓bO, bS, bA, bF, ↓reduceIte, Nat.reduceEqDiff, reduceCtorEq, tyX, List.length_map, hki, hcl, gM hxm, gM hci, hw1, RNode.cells, Int.natCast_add, Int.natCast_one, Int.cast_ofNat_Int, intC]
  refine hC15 _ ?_; clear hC15 C15
  simp only [bL]
  refine aops_chunk 1 fun C16 hC16 => ?_
  simp only [bL, ↓bO, bS, bA, bF, ↓reduceIte, Nat.reduceEqDiff, reduceCtorEq, tyX, List.length_map, hki, hcl, gM hxm, gM hci, hw1, RNode.cells, Int.natCast_add, Int.natCast_one, Int.cast_ofNat_Int, intC]
  refine hC16 _ ?_; clear hC16 C16
  simp only [bL]
  simp only [↓bO, bS, bA, bF, ↓reduceIte, Nat.reduceEqDiff, reduceCtorEq, aBin, tyX, List.length_map, hki, hcl, gM hxm, gM hci, hw1, RNode.cells, Int.natCast_add, Int.natCast_one, Int.cast_ofNat_Int, intC]
  refine hK14 _ ?_; try clear hK14 K14
  refine AWp_cond rfl (fun hb16 => ?_) (fun hb16 => ?_)
  ·
   have hkk : v < s := by simpa using hb16
   have hkM : v < M.length := by omega
   obtain ⟨y, hym⟩ : ∃ y, M[v]? = some y := ⟨_, List.getElem?_eq_getElem hkM⟩
   obtain ⟨ck, hck⟩ : ∃ z, c[v]? = some z := ⟨_, List.getElem?_eq_getElem (by omega)⟩
   have hw2 : IntKind.i64.wrap ((v : Int) + 1) = (v : Int) + 1 := wrap_in (by omega) (by omega)
   refine AWp_skip ?_
   try simp only [bF]
   refine hK13 _ ?_; try clear hK13 K13
   refine AWp_seqK fun K17 hK17 => ?_
   refine AWp_block ?_
   refine AWp_joinZ [false, true, false, true, true, true, true, false, false, false, false, false, false, false, false, false, false, false, false, false, false, false, false, false, false, false, false, false, false, false, false, false, false, false, false, false, false, false, false, false, false, false, false, false, false, false, false, false, false, false, false, false, false, false, false, false, false, false, false, false, false, false, false, false, false, false, false, false, false, false] ([(5, .eptr x.cells), (6, .eptr y.cells)]) [(0, .cells 111 [.sl 4 (M.map RNode.cells), .sl 1 (c.map intC)])] 1 (True) ?_ (fun hC => ?_)
   ·
    refine HAny_start 14 rfl mixed ?_
    dsimp only
    refine HAny_takeK 0 rfl (by kernel_rfl) (by kernel_rfl) (by kernel_rfl) (fun _ _ h => h) fun K18 hK18 => ?_
    simp only [aHead, isPE, isSE, ↓bO, bS, bA, bF, ↓reduceIte, Nat.reduceEqDiff, reduceCtorEq, aField, fo111_0, bL, Nat.reduceAdd, tyX, List.length_map, hki, hcl, gM hxm, gM hci, hw1, RNode.cells, Int.natCast_add, Int.natCast_one, Int.cast_ofNat_Int, intC, hkk, hkM, gM hym, gM hck, hw2]
    refine hK18 _ ?_; try clear hK18 K18
    refine HAny_takeK 1 rfl (by kernel_rfl) (by kernel_rfl) (by kernel_rfl) (fun _ _ h => h) fun K19 hK19 => ?_
    simp only [aHead, isPE, isSE, ↓bO, bS, bA, bF, ↓reduceIte, Nat.reduceEqDiff, reduceCtorEq, aLoad, ti27, getO, pack, bL, Nat.reduceAdd, Nat.reduceLeDiff, tyX, List.length_map, hki, hcl, gM hxm, gM hci, hw1, RNode.cells, Int.natCast_add, Int.natCast_one, Int.cast_ofNat_Int, intC, hkk, hkM, gM hym, gM hck, hw2]
    refine hK19 _ ?_; try clear hK19 K19
    refine HAny_takeK 2 rfl (by kernel_rfl) (by kernel_rfl) (by kernel_rfl) (fun _ _ h => h) fun K20 hK20 => ?_
    simp only [aHead, isPE, isSE, ↓bO, bS, bA, bF, ↓reduceIte, Nat.reduceEqDiff, reduceCtorEq, tyX, List.length_map, hki, hcl, gM hxm, gM hci, hw1, RNode.cells, Int.natCast_add, Int.natCast_one, Int.cast_ofNat_Int, intC, hkk, hkM, gM hym, gM hck, hw2]
    refine hK20 _ ?_; try clear hK20 K20
    refine HAny_takeK 3 rfl (by kernel_rfl) (by kernel_rfl) (by kernel_rfl) (fun _ _ h => h) fun K21 hK21 => ?_
    simp only [aHead, isPE, isSE, ↓bO, bS, bA, bF, ↓reduceIte, Nat.reduceEqDiff, reduceCtorEq, getO, aIndexA, es27, Int.natCast_nonneg, Int.ofNat_lt, Int.toNat_natCast, List.length_map, Int.le_refl, Int.toNat_zero, Int.toNat_one, Int.reduceLE, tyX, hki, hcl, gM hxm, gM hci, hw1, RNode.cells, Int.natCast_add, Int.natCast_one, Int.cast_ofNat_Int, intC, hkk, hkM, gM hym, gM hck, hw2]
    refine hK21 _ ?_; try clear hK21 K21
    refine HAny_takeK 4 rfl (by kernel_rfl) (by kernel_rfl) (by kernel_rfl) (fun _ _ h => h) fun K22 hK22 => ?_
    simp only [aHead, isPE, isSE, ↓bO, bS, bA, bF, ↓reduceIte, Nat.reduceEqDiff, reduceCtorEq, aLoad, ti38, getO, pack, bL, Nat.reduceAdd, Nat.reduceLeDiff, tyX, List.length_map, hki, hcl, gM hxm, gM hci, hw1, RNode.cells, Int.natCast_add, Int.natCast_one, Int.cast_ofNat_Int, intC, hkk, hkM, gM hym, gM hck, hw2]
    refine hK22 _ ?_; try clear hK22 K22
    refine HAny_takeK 5 rfl (by kernel_rfl) (by kernel_rfl) (by kernel_rfl) (fun _ _ h => h) fun K23 hK23 => ?_
    simp only [aHead, isPE, isSE, ↓bO, bS, bA, bF, ↓reduceIte, Nat.reduceEqDiff, reduceCtorEq, aField, fo111_0, bL, Nat.reduceAdd, tyX, List.length_map, hki, hcl, gM hxm, gM hci, hw1, RNode.cells, Int.natCast_add, Int.natCast_one, Int.cast_ofNat_Int, intC, hkk, hkM, gM hym, gM hck, hw2]
    refine hK23 _ ?_; try clear hK23 K23
    refine HAny_takeK 6 rfl (by kernel_rfl) (by kernel_rfl) (by kernel_rfl) (fun _ _ h => h) fun K24 hK24 => ?_
    simp only [aHead, isPE, isSE, ↓bO, bS, bA, bF, ↓reduceIte, Nat.reduceEqDiff, reduceCtorEq, aLoad, ti27, getO, pack, bL, Nat.reduceAdd, Nat.reduceLeDiff, tyX, List.length_map, hki, hcl, gM hxm, gM hci, hw1, RNode.cells, Int.natCast_add, Int.natCast_one, Int.cast_ofNat_Int, intC, hkk, hkM, gM hym, gM hck, hw2]
    refine hK24 _ ?_; try clear hK24 K24
    refine HAny_takeK 7 rfl (by kernel_rfl) (by kernel_rfl) (by kernel_rfl) (fun _ _ h => h) fun K25 hK25 => ?_
    simp only [aHead, isPE, isSE, ↓bO, bS, bA, bF, ↓reduceIte, Nat.reduceEqDiff, reduceCtorEq, tyX, List.length_map, hki, hcl, gM hxm, gM hci, hw1, RNode.cells, Int.natCast_add, Int.natCast_one, Int.cast_ofNat_Int, intC, hkk, hkM, gM hym, gM hck, hw2]
    refine hK25 _ ?_; try clear hK25 K25
    refine HAny_takeK 8 rfl (by kernel_rfl) (by kernel_rfl) (by kernel_rfl) (fun _ _ h => h) fun K26 hK26 => ?_
    simp only [aHead, isPE, isSE, ↓bO, bS, bA, bF, ↓reduceIte, Nat.reduceEqDiff, reduceCtorEq, getO, aIndexA, es27, Int.natCast_nonneg, Int.ofNat_lt, Int.toNat_natCast, List.length_map, Int.le_refl, Int.toNat_zero, Int.toNat_one, Int.reduceLE, tyX, hki, hcl, gM hxm, gM hci, hw1, RNode.cells, Int.natCast_add, Int.natCast_one, Int.cast_ofNat_Int, intC, hkk, hkM, gM hym, gM hck, hw2]
    refine hK26 _ ?_; try clear hK26 K26
    refine HAny_takeK 9 rfl (by kernel_rfl) (by kernel_rfl) (by kernel_rfl) (fun _ _ h => h) fun K27 hK27 => ?_
    simp only [aHead, isPE, isSE, ↓bO, bS, bA, bF, ↓reduceIte, Nat.reduceEqDiff, reduceCtorEq, aLoad, ti38, getO, pack, bL, Nat.reduceAdd, Nat.reduceLeDiff, tyX, List.length_map, hki, hcl, gM hxm, gM hci, hw1, RNode.cells, Int.natCast_add, Int.natCast_one, Int.cast_ofNat_Int, intC, hkk, hkM, gM hym, gM hck, hw2]
    refine hK27 _ ?_; try clear hK27 K27
    refine HAny_rest ?_
    refine JAny_all2 (i := 10) (j := 11) (by kernel_rfl) ?_ ?_
    ·
     refine jAt_alloc rfl rfl rfl rfl (by simp) (by decide) fun K28 hK28 => ?_
     simp only [↓bO, bS, bA, bF, ↓reduceIte, Nat.reduceEqDiff, reduceCtorEq, zc38, bL, tyX, List.length_map, hki, hcl, gM hxm, gM hci, hw1, RNode.cells, Int.natCast_add, Int.natCast_one, Int.cast_ofNat_Int, intC, hkk, hkM, gM hym, gM hck, hw2]
     refine hK28 _ ?_; try clear hK28 K28
     refine JAny_all1 (i := 11) (by kernel_rfl) ?_
     ·
      refine jAt_alloc rfl rfl rfl rfl (by simp) (by decide) fun K29 hK29 => ?_
      simp only [↓bO, bS, bA, bF, ↓reduceIte, Nat.reduceEqDiff, reduceCtorEq, zc38, bL, tyX, List.length_map, hki, hcl, gM hxm, gM hci, hw1, RNode.cells, Int.natCast_add, Int.natCast_one, Int.cast_ofNat_Int, intC, hkk, hkM, gM hym, gM hck, hw2]
      refine hK29 _ ?_; try clear hK29 K29
      refine JAny_all1 (i := 12) (by kernel_rfl) ?_
      ·
       refine jAt_store rfl rfl rfl rfl (by decide) rfl fun K30 hK30 => ?_
       simp only [↓bO, bS, bA, bF, ↓reduceIte, Nat.reduceEqDiff, reduceCtorEq, aStore, ti38, getO, putO, splice, bL, Nat.reduceAdd, Nat.reduceLeDiff, tyX, List.length_map, hki, hcl, gM hxm, gM hci, hw1, RNode.cells, Int.natCast_add, Int.natCast_one, Int.cast_ofNat_Int, intC, hkk, hkM, gM hym, gM hck, hw2]
       refine hK30 _ ?_; try clear hK30 K30
       refine JAny_all1 (i := 13) (by kernel_rfl) ?_
       ·
        refine jAt_store rfl rfl rfl rfl (by decide) rfl fun K31 hK31 => ?_
        simp only [↓bO, bS, bA, bF, ↓reduceIte, Nat.reduceEqDiff, reduceCtorEq, aStore, ti38, getO, putO, splice, bL, Nat.reduceAdd, Nat.reduceLeDiff, tyX, List.length_map, hki, hcl, gM hxm, gM hci, hw1, RNode.cells, Int.natCast_add, Int.natCast_one, Int.cast_ofNat_Int, intC, hkk, hkM, gM hym, gM hck, hw2]
        refine hK31 _ ?_; try clear hK31 K31
        refine JAny_done (by kernel_rfl) ?_
        simp only [bF]
        try simp only [maskL, setsL, putsO, putO, bA, Nat.reduceEqDiff, ↓reduceIte]
        first | refine ⟨trivial, ?_⟩ | skip
        refine Weak.freeze ?_ ⟨rfl, trivial⟩ (by first | omega | (simp only; omega)) (by first | omega | (simp only; omega)) ?_ ⟨by omega, ⟨Und.data (RNode.dataSl _), Und.data (dataInts _), trivial⟩, trivial⟩
        · repeat' first | trivial | exact .inr ⟨_, _, _, rfl, rfl, rfl, rfl⟩ | exact .inl (.refl _) | exact .inl (.any _) | (refine ⟨?_, ?_⟩)
        · repeat' first | exact trivial | exact .any _ | exact .ptr (by omega) | exact .v _ _ | exact Und.data (RNode.dataSl _) | exact Und.data (dataInts _) | exact Und.data (.eptr (RNode.data _)) | (refine ⟨?_, ?_⟩)
    ·
     refine jAt_alloc rfl rfl rfl rfl (by simp) (by decide) fun K32 hK32 => ?_
     simp only [↓bO, bS, bA, bF, ↓reduceIte, Nat.reduceEqDiff, reduceCtorEq, zc38, bL, tyX, List.length_map, hki, hcl, gM hxm, gM hci, hw1, RNode.cells, Int.natCast_add, Int.natCast_one, Int.cast_ofNat_Int, intC, hkk, hkM, gM hym, gM hck, hw2]
     refine hK32 _ ?_; try clear hK32 K32
     refine JAny_all1 (i := 10) (by kernel_rfl) ?_
     ·
      refine jAt_alloc rfl rfl rfl rfl (by simp) (by decide) fun K33 hK33 => ?_
      simp only [↓bO, bS, bA, bF, ↓reduceIte, Nat.reduceEqDiff, reduceCtorEq, zc38, bL, tyX, List.length_map, hki, hcl, gM hxm, gM hci, hw1, RNode.cells, Int.natCast_add, Int.natCast_one, Int.cast_ofNat_Int, intC, hkk, hkM, gM hym, gM hck, hw2]
      refine hK33 _ ?_; try clear hK33 K33
      refine JAny_all1 (i := 12) (by kernel_rfl) ?_
      ·
       refine jAt_store rfl rfl rfl rfl (by decide) rfl fun K34 hK34 => ?_
       simp only [↓bO, bS, bA, bF, ↓reduceIte, Nat.reduceEqDiff, reduceCtorEq, aStore, ti38, getO, putO, splice, bL, Nat.reduceAdd, Nat.reduceLeDiff, tyX, List.length_map, hki, hcl, gM hxm, gM hci, hw1, RNode.cells, Int.natCast_add, Int.natCast_one, Int.cast_ofNat_Int, intC, hkk, hkM, gM hym, gM hck, hw2]
       refine hK34 _ ?_; try clear hK34 K34
       refine JAny_all1 (i := 13) (by kernel_rfl) ?_
       ·
        refine jAt_store rfl rfl rfl rfl (by decide) rfl fun K35 hK35 => ?_
        simp only [↓bO, bS, bA, bF, ↓reduceIte, Nat.reduceEqDiff, reduceCtorEq, aStore, ti38, getO, putO, splice, bL, Nat.reduceAdd, Nat.reduceLeDiff, tyX, List.length_map, hki, hcl, gM hxm, gM hci, hw1, RNode.cells, Int.natCast_add, Int.natCast_one, Int.cast_ofNat_Int, intC, hkk, hkM, gM hym, gM hck, hw2]
        refine hK35 _ ?_; try clear hK35 K35
        refine JAny_done (by kernel_rfl) ?_
        simp only [bF]
        try simp only [maskL, setsL, putsO, putO, bA, Nat.reduceEqDiff, ↓reduceIte]
        first | refine ⟨trivial, ?_⟩ | skip
        refine Weak.freeze ?_ ⟨rfl, trivial⟩ (by first | omega | (simp only; omega)) (by first | omega | (simp only; omega)) ?_ ⟨by omega, ⟨Und.data (RNode.dataSl _), Und.data (dataInts _), trivial⟩, trivial⟩
        · repeat' first | trivial | exact .inr ⟨_, _, _, rfl, rfl, rfl, rfl⟩ | exact .inl (.refl _) | exact .inl (.any _) | (refine ⟨?_, ?_⟩)
        · repeat' first | exact trivial | exact .any _ | exact .ptr (by omega) | exact .v _ _ | exact Und.data (RNode.dataSl _) | exact Und.data (dataInts _) | exact Und.data (.eptr (RNode.data _)) | (refine ⟨?_, ?_⟩)
   simp only [maskL, setsL, putsO, putO, bA, Nat.reduceEqDiff, ↓reduceIte]
   refine AWp_seqK fun K36 hK36 => ?_
   refine AWp_drawK 41 mixed (by kernel_rfl) fun K37 hK37 => ?_
   simp only [bL]
   refine dRun_chunk 1 fun C38 hC38 => ?_
   simp only [bL, ↓dRun, ↓dOp, ↓bO, bS, bA, bF, ↓reduceIte, Nat.reduceEqDiff, reduceCtorEq, aField, fo111_1, Nat.reduceAdd, tyX, List.length_map, hki, hcl, gM hxm, gM hci, hw1, RNode.cells, Int.natCast_add, Int.natCast_one, Int.cast_ofNat_Int, intC, hkk, hkM, gM hym, gM hck, hw2]
   refine hC38 _ ?_; clear hC38 C38
   simp only [bL]
   refine dRun_chunk 1 fun C39 hC39 => ?_
   simp only [bL, ↓dRun, ↓dOp, ↓bO, bS, bA, bF, ↓reduceIte, Nat.reduceEqDiff, reduceCtorEq, aLoad, ti109, getO, pack, Nat.reduceAdd, Nat.reduceLeDiff, tyX, List.length_map, hki, hcl, gM hxm, gM hci, hw1, RNode.cells, Int.natCast_add, Int.natCast_one, Int.cast_ofNat_Int, intC, hkk, hkM, gM hym, gM hck, hw2]
   refine hC39 _ ?_; clear hC39 C39
   simp only [bL]
   refine dRun_chunk 1 fun C40 hC40 => ?_
   simp only [bL, ↓dRun, ↓dOp, ↓bO, bS, bA, bF, ↓reduceIte, Nat.reduceEqDiff, reduceCtorEq, tyX, List.length_map, hki, hcl, gM hxm, gM hci, hw1, RNode.cells, Int.natCast_add, Int.natCast_one, Int.cast_ofNat_Int, intC, hkk, hkM, gM hym, gM hck, hw2]
   refine hC40 _ ?_; clear hC40 C40
   simp only [bL]
   refine dRun_chunk 1 fun C41 hC41 => ?_
   simp only [bL, ↓dRun, ↓dOp, ↓bO, bS, bA, bF, ↓reduceIte, Nat.reduceEqDiff, reduceCtorEq, getO, aIndexA, es109, Int.natCast_nonneg, Int.ofNat_lt, Int.toNat_natCast, List.length_map, Int.le_refl, Int.toNat_zero, Int.toNat_one, Int.reduceLE, tyX, hki, hcl, gM hxm, gM hci, hw1, RNode.cells, Int.natCast_add, Int.natCast_one, Int.cast_ofNat_Int, intC, hkk, hkM, gM hym, gM hck, hw2]
   refine hC41 _ ?_; clear hC41 C41
   simp only [bL]
   refine dRun_chunk 1 fun C42 hC42 => ?_
   simp only [bL, ↓dRun, ↓dOp, ↓bO, bS, bA, bF, ↓reduceIte, Nat.reduceEqDiff, reduceCtorEq, aLoad, ti3, getO, pack, Nat.reduceAdd, Nat.reduceLeDiff, tyX, List.length_map, hki, hcl, gM hxm, gM hci, hw1, RNode.cells, Int.natCast_add, Int.natCast_one, Int.cast_ofNat_Int, intC, hkk, hkM, gM hym, gM hck, hw2]
   refine hC42 _ ?_; clear hC42 C42
   simp only [bL]
   refine dRun_chunk 1 fun C43 hC43 => ?_
   simp only [bL, ↓dRun, ↓dOp, ↓bO, bS, bA, bF, ↓reduceIte, Nat.reduceEqDiff, reduceCtorEq, aField, fo111_1, Nat.reduceAdd, tyX, List.length_map, hki, hcl, gM hxm, gM hci, hw1, RNode.cells, Int.natCast_add, Int.natCast_one, Int.cast_ofNat_Int, intC, hkk, hkM, gM hym, gM hck, hw2]
   refine hC43 _ ?_; clear hC43 C43
   simp only [bL]
   refine dRun_chunk 1 fun C44 hC44 => ?_
   simp only [bL, ↓dRun, ↓dOp, ↓bO, bS, bA, bF, ↓reduceIte, Nat.reduceEqDiff, reduceCtorEq, aLoad, ti109, getO, pack, Nat.reduceAdd, Nat.reduceLeDiff, tyX, List.length_map, hki, hcl, gM hxm, gM hci, hw1, RNode.cells, Int.natCast_add, Int.natCast_one, Int.cast_ofNat_Int, intC, hkk, hkM, gM hym, gM hck, hw2]
   refine hC44 _ ?_; clear hC44 C44
   simp only [bL]
   refine dRun_chunk 1 fun C45 hC45 => ?_
   simp only [bL, ↓dRun, ↓dOp, ↓bO, bS, bA, bF, ↓reduceIte, Nat.reduceEqDiff, reduceCtorEq, tyX, List.length_map, hki, hcl, gM hxm, gM hci, hw1, RNode.cells, Int.natCast_add, Int.natCast_one, Int.cast_ofNat_Int, intC, hkk, hkM, gM hym, gM hck, hw2]
   refine hC45 _ ?_; clear hC45 C45
   simp only [bL]
   refine dRun_chunk 1 fun C46 hC46 => ?_
   simp only [bL, ↓dRun, ↓dOp, ↓bO, bS, bA, bF, ↓reduceIte, Nat.reduceEqDiff, reduceCtorEq, getO, aIndexA, es109, Int.natCast_nonneg, Int.ofNat_lt, Int.toNat_natCast, List.length_map, Int.le_refl, Int.toNat_zero, Int.toNat_one, Int.reduceLE, tyX, hki, hcl, gM hxm, gM hci, hw1, RNode.cells, Int.natCast_add, Int.natCast_one, Int.cast_ofNat_Int, intC, hkk, hkM, gM hym, gM hck, hw2]
   refine hC46 _ ?_; clear hC46 C46
   simp only [bL]
   refine dRun_chunk 1 fun C47 hC47 => ?_
   simp only [bL, ↓dRun, ↓dOp, ↓bO, bS, bA, bF, ↓reduceIte, Nat.reduceEqDiff, reduceCtorEq, aLoad, ti3, getO, pack, Nat.reduceAdd, Nat.reduceLeDiff, tyX, List.length_map, hki, hcl, gM hxm, gM hci, hw1, RNode.cells, Int.natCast_add, Int.natCast_one, Int.cast_ofNat_Int, intC, hkk, hkM, gM hym, gM hck, hw2]
   refine hC47 _ ?_; clear hC47 C47
   simp only [bL]
   refine dRun_chunk 1 fun C48 hC48 => ?_
   simp only [bL, ↓dRun, ↓dOp, ↓bO, bS, bA, bF, ↓reduceIte, Nat.reduceEqDiff, reduceCtorEq, aBin, tyX, List.length_map, hki, hcl, gM hxm, gM hci, hw1, RNode.cells, Int.natCast_add, Int.natCast_one, Int.cast_ofNat_Int, intC, hkk, hkM, gM hym, gM hck, hw2]
   refine hC48 _ ?_; clear hC48 C48
   simp only [bL]
   refine dRun_chunk 1 fun C49 hC49 => ?_
   simp only [bL, ↓dRun, ↓dOp, ↓bO, bS, bA, bF, ↓reduceIte, Nat.reduceEqDiff, reduceCtorEq, tyX, List.length_map, hki, hcl, gM hxm, gM hci, hw1, RNode.cells, Int.natCast_add, Int.natCast_one, Int.cast_ofNat_Int, intC, hkk, hkM, gM hym, gM hck, hw2]
   refine hC49 _ ?_; clear hC49 C49
   simp only [bL]
   refine dRun_case 40 rfl (fun hc40 => ?_) (fun hc40 => ?_)
   ·
    simp only [List.set_cons_zero, List.set_cons_succ]
    have hcc : ci = ck := by simpa using hc40
    refine dRun_chunk 1 fun C50 hC50 => ?_
    simp only [bL, ↓dRun, ↓dOp, ↓bO, bS, bA, bF, ↓reduceIte, Nat.reduceEqDiff, reduceCtorEq, undef, aField, fo38_0, Nat.reduceAdd, tyX, List.length_map, hki, hcl, gM hxm, gM hci, hw1, RNode.cells, Int.natCast_add, Int.natCast_one, Int.cast_ofNat_Int, intC, hkk, hkM, gM hym, gM hck, hw2]
    refine hC50 _ ?_; clear hC50 C50
    simp only [bL]
    refine dRun_chunk 1 fun C51 hC51 => ?_
    simp only [bL, ↓dRun, ↓dOp, ↓bO, bS, bA, bF, ↓reduceIte, Nat.reduceEqDiff, reduceCtorEq, undef, aField, fo32_0, Nat.reduceAdd, tyX, List.length_map, hki, hcl, gM hxm, gM hci, hw1, RNode.cells, Int.natCast_add, Int.natCast_one, Int.cast_ofNat_Int, intC, hkk, hkM, gM hym, gM hck, hw2]
    refine hC51 _ ?_; clear hC51 C51
    simp only [bL]
    refine dRun_chunk 1 fun C52 hC52 => ?_
    simp only [bL, ↓dRun, ↓dOp, ↓bO, bS, bA, bF, ↓reduceIte, Nat.reduceEqDiff, reduceCtorEq, undef, aLoad, ti3, getO, pack, Nat.reduceAdd, Nat.reduceLeDiff, tyX, List.length_map, hki, hcl, gM hxm, gM hci, hw1, RNode.cells, Int.natCast_add, Int.natCast_one, Int.cast_ofNat_Int, intC, hkk, hkM, gM hym, gM hck, hw2]
    refine hC52 _ ?_; clear hC52 C52
    simp only [bL]
    refine dRun_chunk 1 fun C53 hC53 => ?_
    simp only [bL, ↓dRun, ↓dOp, ↓bO, bS, bA, bF, ↓reduceIte, Nat.reduceEqDiff, reduceCtorEq, undef, aBin, tyX, List.length_map, hki, hcl, gM hxm, gM hci, hw1, RNode.cells, Int.natCast_add, Int.natCast_one, Int.cast_ofNat_Int, intC, hkk, hkM, gM hym, gM hck, hw2]
    refine hC53 _ ?_; clear hC53 C53
    simp only [bL]
    refine dRun_chunk 1 fun C54 hC54 => ?_
    simp only [bL, ↓dRun, ↓dOp, ↓bO, bS, bA, bF, ↓reduceIte, Nat.reduceEqDiff, reduceCtorEq, aBool, tyX, List.length_map, hki, hcl, gM hxm, gM hci, hw1, RNode.cells, Int.natCast_add, Int.natCast_one, Int.cast_ofNat_Int, intC, hkk, hkM, gM hym, gM hck, hw2]
    refine hC54 _ ?_; clear hC54 C54
    simp only [bL]
    refine dRun_chunk 1 fun C55 hC55 => ?_
    simp only [bL, ↓dRun, ↓dOp, ↓bO, bS, bA, bF, ↓reduceIte, Nat.reduceEqDiff, reduceCtorEq, tyX, List.length_map, hki, hcl, gM hxm, gM hci, hw1, RNode.cells, Int.natCast_add, Int.natCast_one, Int.cast_ofNat_Int, intC, hkk, hkM, gM hym, gM hck, hw2]
    refine hC55 _ ?_; clear hC55 C55
    simp only [bL]
    refine dRun_case 46 rfl (fun hc46 => ?_) (fun hc46 => ?_)
    ·
     simp only [List.set_cons_zero, List.set_cons_succ]
     have hk1 : x.t.k ≠ 1 := by simpa using hc46
     refine dRun_chunk 1 fun C56 hC56 => ?_
     simp only [bL, ↓dRun, ↓dOp, ↓bO, bS, bA, bF, ↓reduceIte, Nat.reduceEqDiff, reduceCtorEq, undef, aField, fo38_0, Nat.reduceAdd, tyX, List.length_map, hki, hcl, gM hxm, gM hci, hw1, RNode.cells, Int.natCast_add, Int.natCast_one, Int.cast_ofNat_Int, intC, hkk, hkM, gM hym, gM hck, hw2]
     refine hC56 _ ?_; clear hC56 C56
     simp only [bL]
     refine dRun_chunk 1 fun C57 hC57 => ?_
     simp only [bL, ↓dRun, ↓dOp, ↓bO, bS, bA, bF, ↓reduceIte, Nat.reduceEqDiff, reduceCtorEq, undef, aField, fo32_0, Nat.reduceAdd, tyX, List.length_map, hki, hcl, gM hxm, gM hci, hw1, RNode.cells, Int.natCast_add, Int.natCast_one, Int.cast_ofNat_Int, intC, hkk, hkM, gM hym, gM hck, hw2]
     refine hC57 _ ?_; clear hC57 C57
     simp only [bL]
     refine dRun_chunk 1 fun C58 hC58 => ?_
     simp only [bL, ↓dRun, ↓dOp, ↓bO, bS, bA, bF, ↓reduceIte, Nat.reduceEqDiff, reduceCtorEq, undef, aLoad, ti3, getO, pack, Nat.reduceAdd, Nat.reduceLeDiff, tyX, List.length_map, hki, hcl, gM hxm, gM hci, hw1, RNode.cells, Int.natCast_add, Int.natCast_one, Int.cast_ofNat_Int, intC, hkk, hkM, gM hym, gM hck, hw2]
     refine hC58 _ ?_; clear hC58 C58
     simp only [bL]
     refine dRun_chunk 1 fun C59 hC59 => ?_
     simp only [bL, ↓dRun, ↓dOp, ↓bO, bS, bA, bF, ↓reduceIte, Nat.reduceEqDiff, reduceCtorEq, undef, aBin, tyX, List.length_map, hki, hcl, gM hxm, gM hci, hw1, RNode.cells, Int.natCast_add, Int.natCast_one, Int.cast_ofNat_Int, intC, hkk, hkM, gM hym, gM hck, hw2]
     refine hC59 _ ?_; clear hC59 C59
     simp only [bL]
     refine dRun_chunk 1 fun C60 hC60 => ?_
     simp only [bL, ↓dRun, ↓dOp, ↓bO, bS, bA, bF, ↓reduceIte, Nat.reduceEqDiff, reduceCtorEq, aBool, tyX, List.length_map, hki, hcl, gM hxm, gM hci, hw1, RNode.cells, Int.natCast_add, Int.natCast_one, Int.cast_ofNat_Int, intC, hkk, hkM, gM hym, gM hck, hw2]
     refine hC60 _ ?_; clear hC60 C60
     simp only [bL]
     refine dRun_chunk 1 fun C61 hC61 => ?_
     simp only [bL, ↓dRun, ↓dOp, ↓bO, bS, bA, bF, ↓reduceIte, Nat.reduceEqDiff, reduceCtorEq, tyX, List.length_map, hki, hcl, gM hxm, gM hci, hw1, RNode.cells, Int.natCast_add, Int.natCast_one, Int.cast_ofNat_Int, intC, hkk, hkM, gM hym, gM hck, hw2]
     refine hC61 _ ?_; clear hC61 C61
     simp only [bL]
     refine dRun_case 52 rfl (fun hc52 => ?_) (fun hc52 => ?_)
     ·
      simp only [List.set_cons_zero, List.set_cons_succ]
      have hk2 : y.t.k ≠ 1 := by simpa using hc52
      refine dRun_chunk 1 fun C62 hC62 => ?_
      simp only [bL, ↓dRun, ↓dOp, ↓bO, bS, bA, bF, ↓reduceIte, Nat.reduceEqDiff, reduceCtorEq, undef, aField, fo38_0, Nat.reduceAdd, tyX, List.length_map, hki, hcl, gM hxm, gM hci, hw1, RNode.cells, Int.natCast_add, Int.natCast_one, Int.cast_ofNat_Int, intC, hkk, hkM, gM hym, gM hck, hw2]
      refine hC62 _ ?_; clear hC62 C62
      simp only [bL]
      refine dRun_chunk 1 fun C63 hC63 => ?_
      simp only [bL, ↓dRun, ↓dOp, ↓bO, bS, bA, bF, ↓reduceIte, Nat.reduceEqDiff, reduceCtorEq, undef, aField, fo32_0, Nat.reduceAdd, tyX, List.length_map, hki, hcl, gM hxm, gM hci, hw1, RNode.cells, Int.natCast_add, Int.natCast_one, Int.cast_ofNat_Int, intC, hkk, hkM, gM hym, gM hck, hw2]
      refine hC63 _ ?_; clear hC63 C63
      simp only [bL]
      refine dRun_chunk 1 fun C64 hC64 => ?_
      simp only [bL, ↓dRun, ↓dOp, ↓bO, bS, bA, bF, ↓reduceIte, Nat.reduceEqDiff, reduceCtorEq, undef, aLoad, ti3, getO, pack, Nat.reduceAdd, Nat.reduceLeDiff, tyX, List.length_map, hki, hcl, gM hxm, gM hci, hw1, RNode.cells, Int.natCast_add, Int.natCast_one, Int.cast_ofNat_Int, intC, hkk, hkM, gM hym, gM hck, hw2]
      refine hC64 _ ?_; clear hC64 C64
      simp only [bL]
      refine dRun_chunk 1 fun C65 hC65 => ?_
      simp only [bL, ↓dRun, ↓dOp, ↓bO, bS, bA, bF, ↓reduceIte, Nat.reduceEqDiff, reduceCtorEq, undef, aField, fo38_0, Nat.reduceAdd, tyX, List.length_map, hki, hcl, gM hxm, gM hci, hw1, RNode.cells, Int.natCast_add, Int.natCast_one, Int.cast_ofNat_Int, intC, hkk, hkM, gM hym, gM hck, hw2]
      refine hC65 _ ?_; clear hC65 C65
      simp only [bL]
      refine dRun_chunk 1 fun C66 hC66 => ?_
      simp only [bL, ↓dRun, ↓dOp, ↓bO, bS, bA, bF, ↓reduceIte, Nat.reduceEqDiff, reduceCtorEq, undef, aField, fo32_0, Nat.reduceAdd, tyX, List.length_map, hki, hcl, gM hxm, gM hci, hw1, RNode.cells, Int.natCast_add, Int.natCast_one, Int.cast_ofNat_Int, intC, hkk, hkM, gM hym, gM hck, hw2]
      refine hC66 _ ?_; clear hC66 C66
      simp only [bL]
      refine dRun_chunk 1 fun C67 hC67 => ?_
      simp only [bL, ↓dRun, ↓dOp, ↓bO, bS, bA, bF, ↓reduceIte, Nat.reduceEqDiff, reduceCtorEq, undef, aLoad, ti3, getO, pack, Nat.reduceAdd, Nat.reduceLeDiff, tyX, List.length_map, hki, hcl, gM hxm, gM hci, hw1, RNode.cells, Int.natCast_add, Int.natCast_one, Int.cast_ofNat_Int, intC, hkk, hkM, gM hym, gM hck, hw2]
      refine hC67 _ ?_; clear hC67 C67
      simp only [bL]
      refine dRun_chunk 1 fun C68 hC68 => ?_
      simp only [bL, ↓dRun, ↓dOp, ↓bO, bS, bA, bF, ↓reduceIte, Nat.reduceEqDiff, reduceCtorEq, undef, aBin, tyX, List.length_map, hki, hcl, gM hxm, gM hci, hw1, RNode.cells, Int.natCast_add, Int.natCast_one, Int.cast_ofNat_Int, intC, hkk, hkM, gM hym, gM hck, hw2]
      refine hC68 _ ?_; clear hC68 C68
      simp only [bL]
      refine dRun_chunk 1 fun C69 hC69 => ?_
      simp only [bL, ↓dRun, ↓dOp, ↓bO, bS, bA, bF, ↓reduceIte, Nat.reduceEqDiff, reduceCtorEq, undef, tyX, List.length_map, hki, hcl, gM hxm, gM hci, hw1, RNode.cells, Int.natCast_add, Int.natCast_one, Int.cast_ofNat_Int, intC, hkk, hkM, gM hym, gM hck, hw2]
      refine hC69 _ ?_; clear hC69 C69
      simp only [bL]
      refine dRun_case 60 rfl (fun hc60 => ?_) (fun hc60 => ?_)
      ·
       simp only [List.set_cons_zero, List.set_cons_succ]
       have hkn : ¬ x.t.k = y.t.k := by simpa using hc60
       have hca : ClashAt (shR M) s v := (clashAt_iff hxm hym).2 ⟨hk1, hk2, .inl hkn⟩
       refine dRun_skips 7 (by kernel_rfl) ?_
       simp only [uN, bL, bS, bA]
       refine dRun_chunk 1 fun C70 hC70 => ?_
       simp only [bL, ↓dRun, ↓dOp, ↓bO, bS, bA, bF, ↓reduceIte, Nat.reduceEqDiff, reduceCtorEq, undef, aBool, tyX, List.length_map, hki, hcl, gM hxm, gM hci, hw1, RNode.cells, Int.natCast_add, Int.natCast_one, Int.cast_ofNat_Int, intC, hkk, hkM, gM hym, gM hck, hw2]
       refine hC70 _ ?_; clear hC70 C70
       simp only [bL]
       simp only [↓dRun, ↓dOp, bL, ↓bO, bS, bA, bF, ↓reduceIte, Nat.reduceEqDiff, reduceCtorEq, aBool, tyX, List.length_map, hki, hcl, gM hxm, gM hci, hw1, RNode.cells, Int.natCast_add, Int.natCast_one, Int.cast_ofNat_Int, intC, hkk, hkM, gM hym, gM hck, hw2]
       refine hK37 _ ?_; try clear hK37 K37
       simp only [bL, aops, bF]
       refine hK36 _ ?_; try clear hK36 K36
       refine AWp_cond (b := true) (by first | exact rfl | exact congrArg (fun b => AV.v (.bool b)) hb69) (fun _ => ?_) (fun h => (by cases h))
       refine AWp_seqK fun K71 hK71 => ?_
       refine AWp_region ?_
       simp only [↓bO, bS, bA, bF, ↓reduceIte, Nat.reduceEqDiff, reduceCtorEq, tyX, List.length_map, hki, hcl, gM hxm, gM hci, hw1, RNode.cells, Int.natCast_add, Int.natCast_one, Int.cast_ofNat_Int, intC, hkk, hkM, gM hym, gM hck, hw2]
       refine hK71 _ ?_; try clear hK71 K71
       refine AWp_ret ?_
       try simp only [bF, retQ, aRes, tupOf, bS, bA]
       rw [clB_of hki hkk (by rw [hci, hck, hcc]) hca]; exact Le.refl _
      ·
       simp only [List.set_cons_zero, List.set_cons_succ]
       have hke : x.t.k = y.t.k := by simpa using hc60
       refine dRun_chunk 1 fun C72 hC72 => ?_
       simp only [bL, ↓dRun, ↓dOp, ↓bO, bS, bA, bF, ↓reduceIte, Nat.reduceEqDiff, reduceCtorEq, undef, aField, fo38_1, Nat.reduceAdd, tyX, List.length_map, hki, hcl, gM hxm, gM hci, hw1, RNode.cells, Int.natCast_add, Int.natCast_one, Int.cast_ofNat_Int, intC, hkk, hkM, gM hym, gM hck, hw2]
       refine hC72 _ ?_; clear hC72 C72
       simp only [bL]
       refine dRun_chunk 1 fun C73 hC73 => ?_
       simp only [bL, ↓dRun, ↓dOp, ↓bO, bS, bA, bF, ↓reduceIte, Nat.reduceEqDiff, reduceCtorEq, undef, aLoad, ti28, getO, pack, Nat.reduceAdd, Nat.reduceLeDiff, tyX, List.length_map, hki, hcl, gM hxm, gM hci, hw1, RNode.cells, Int.natCast_add, Int.natCast_one, Int.cast_ofNat_Int, intC, hkk, hkM, gM hym, gM hck, hw2]
       refine hC73 _ ?_; clear hC73 C73
       simp only [bL]
       refine dRun_chunk 1 fun C74 hC74 => ?_
       simp only [bL, ↓dRun, ↓dOp, ↓bO, bS, bA, bF, ↓reduceIte, Nat.reduceEqDiff, reduceCtorEq, undef, getO, aLenX, aLen, ln28, List.length_map, tyX, hki, hcl, gM hxm, gM hci, hw1, RNode.cells, Int.natCast_add, Int.natCast_one, Int.cast_ofNat_Int, intC, hkk, hkM, gM hym, gM hck, hw2]
       refine hC74 _ ?_; clear hC74 C74
       simp only [bL]
       refine dRun_chunk 1 fun C75 hC75 => ?_
       simp only [bL, ↓dRun, ↓dOp, ↓bO, bS, bA, bF, ↓reduceIte, Nat.reduceEqDiff, reduceCtorEq, undef, aField, fo38_1, Nat.reduceAdd, tyX, List.length_map, hki, hcl, gM hxm, gM hci, hw1, RNode.cells, Int.natCast_add, Int.natCast_one, Int.cast_ofNat_Int, intC, hkk, hkM, gM hym, gM hck, hw2]
       refine hC75 _ ?_; clear hC75 C75
       simp only [bL]
       refine dRun_chunk 1 fun C76 hC76 => ?_
       simp only [bL, ↓dRun, ↓dOp, ↓bO, bS, bA, bF, ↓reduceIte, Nat.reduceEqDiff, reduceCtorEq, undef, aLoad, ti28, getO, pack, Nat.reduceAdd, Nat.reduceLeDiff, tyX, List.length_map, hki, hcl, gM hxm, gM hci, hw1, RNode.cells, Int.natCast_add, Int.natCast_one, Int.cast_ofNat_Int, intC, hkk, hkM, gM hym, gM hck, hw2]
       refine hC76 _ ?_; clear hC76 C76
       simp only [bL]
       refine dRun_chunk 1 fun C77 hC77 => ?_
       simp only [bL, ↓dRun, ↓dOp, ↓bO, bS, bA, bF, ↓reduceIte, Nat.reduceEqDiff, reduceCtorEq, undef, getO, aLenX, aLen, ln28, List.length_map, tyX, hki, hcl, gM hxm, gM hci, hw1, RNode.cells, Int.natCast_add, Int.natCast_one, Int.cast_ofNat_Int, intC, hkk, hkM, gM hym, gM hck, hw2]
       refine hC77 _ ?_; clear hC77 C77
       simp only [bL]
       refine dRun_chunk 1 fun C78 hC78 => ?_
       simp only [bL, ↓dRun, ↓dOp, ↓bO, bS, bA, bF, ↓reduceIte, Nat.reduceEqDiff, reduceCtorEq, undef, aBin, tyX, List.length_map, hki, hcl, gM hxm, gM hci, hw1, RNode.cells, Int.natCast_add, Int.natCast_one, Int.cast_ofNat_Int, intC, hkk, hkM, gM hym, gM hck, hw2]
       refine hC78 _ ?_; clear hC78 C78
       simp only [bL]
       refine dRun_chunk 1 fun C79 hC79 => ?_
       simp only [bL, ↓dRun, ↓dOp, ↓bO, bS, bA, bF, ↓reduceIte, Nat.reduceEqDiff, reduceCtorEq, undef, aBool, tyX, List.length_map, hki, hcl, gM hxm, gM hci, hw1, RNode.cells, Int.natCast_add, Int.natCast_one, Int.cast_ofNat_Int, intC, hkk, hkM, gM hym, gM hck, hw2]
       refine hC79 _ ?_; clear hC79 C79
       simp only [bL]
       simp only [↓dRun, ↓dOp, bL, ↓bO, bS, bA, bF, ↓reduceIte, Nat.reduceEqDiff, reduceCtorEq, aBool, tyX, List.length_map, hki, hcl, gM hxm, gM hci, hw1, RNode.cells, Int.natCast_add, Int.natCast_one, Int.cast_ofNat_Int, intC, hkk, hkM, gM hym, gM hck, hw2]
       refine hK37 _ ?_; try clear hK37 K37
       simp only [bL, aops, bF]
       refine hK36 _ ?_; try clear hK36 K36
       refine AWp_cond rfl (fun hb69 => ?_) (fun hb69 => ?_)
       ·
        have hln2 : ¬ x.parts.length = y.parts.length := by (have h9 := hb69; simp at h9; omega)
        have hca : ClashAt (shR M) s v := (clashAt_iff hxm hym).2 ⟨hk1, hk2, .inr hln2⟩
        refine AWp_seqK fun K80 hK80 => ?_
        refine AWp_region ?_
        simp only [↓bO, bS, bA, bF, ↓reduceIte, Nat.reduceEqDiff, reduceCtorEq, tyX, List.length_map, hki, hcl, gM hxm, gM hci, hw1, RNode.cells, Int.natCast_add, Int.natCast_one, Int.cast_ofNat_Int, intC, hkk, hkM, gM hym, gM hck, hw2]
        refine hK80 _ ?_; try clear hK80 K80
        refine AWp_ret ?_
        try simp only [bF, retQ, aRes, tupOf, bS, bA]
        rw [clB_of hki hkk (by rw [hci, hck, hcc]) hca]; exact Le.refl _
       ·
        have hln2 : x.parts.length = y.parts.length := by (have h9 := hb69; simp at h9; omega)
        have hno : c[s]? = c[v]? → ¬ ClashAt (shR M) s v := by rw [clashAt_iff hxm hym]; exact fun _ h => h.2.2.elim (fun e => e hke) (fun e => e hln2)
        refine AWp_skip ?_
        try simp only [bF]
        refine hK17 _ ?_; try clear hK17 K17
        refine AWp_region ?_
        refine aops_chunk 1 fun C81 hC81 => ?_
        simp only [bL, ↓bO, bS, bA, bF, ↓reduceIte, Nat.reduceEqDiff, reduceCtorEq, tyX, List.length_map, hki, hcl, gM hxm, gM hci, hw1, RNode.cells, Int.natCast_add, Int.natCast_one, Int.cast_ofNat_Int, intC, hkk, hkM, gM hym, gM hck, hw2]
        refine hC81 _ ?_; clear hC81 C81
        simp only [bL]
        refine aops_chunk 1 fun C82 hC82 => ?_
        simp only [bL, ↓bO, bS, bA, bF, ↓reduceIte, Nat.reduceEqDiff, reduceCtorEq, aBin, tyX, List.length_map, hki, hcl, gM hxm, gM hci, hw1, RNode.cells, Int.natCast_add, Int.natCast_one, Int.cast_ofNat_Int, intC, hkk, hkM, gM hym, gM hck, hw2]
        refine hC82 _ ?_; clear hC82 C82
        simp only [bL]
        simp only [↓bO, bS, bA, bF, ↓reduceIte, Nat.reduceEqDiff, reduceCtorEq, tyX, List.length_map, hki, hcl, gM hxm, gM hci, hw1, RNode.cells, Int.natCast_add, Int.natCast_one, Int.cast_ofNat_Int, intC, hkk, hkM, gM hym, gM hck, hw2]
        refine ⟨(v + 1), ⟨by omega, hv.2.next hno⟩, by omega, ?_⟩
        simp only [maskL, setsL, putsO, putO, List.set_cons_zero, List.set_cons_succ, Nat.reduceEqDiff, ↓reduceIte, Int.natCast_add, Int.natCast_one, Int.cast_ofNat_Int]
        refine Weak.sub ?_ ⟨rfl, trivial⟩ (by first | omega | (simp only; omega)) (by first | omega | (simp only; omega)) ?_ ?_
        · simp only [LeL, Le.refl, Le.any, and_self]
        · repeat' first | exact trivial | exact .any _ | exact .ptr (by omega) | exact .v _ _ | exact Und.data (RNode.dataSl _) | exact Und.data (dataInts _) | exact Und.data (.eptr (RNode.data _)) | (refine ⟨?_, ?_⟩)
        · exact ⟨by omega, ⟨Und.data (RNode.dataSl _), Und.data (dataInts _), trivial⟩, trivial⟩
     ·
      simp only [List.set_cons_zero, List.set_cons_succ]
      have hk2 : y.t.k = 1 := by simpa using hc52
      have hno : c[s]? = c[v]? → ¬ ClashAt (shR M) s v := by rw [clashAt_iff hxm hym]; exact fun _ h => h.2.1 hk2
      refine dRun_skips 16 (by kernel_rfl) ?_
      simp only [uN, bL, bS, bA]
      simp only [↓dRun, ↓dOp, bL, ↓bO, bS, bA, bF, ↓reduceIte, Nat.reduceEqDiff, reduceCtorEq, aBool, tyX, List.length_map, hki, hcl, gM hxm, gM hci, hw1, RNode.cells, Int.natCast_add, Int.natCast_one, Int.cast_ofNat_Int, intC, hkk, hkM, gM hym, gM hck, hw2]
      refine hK37 _ ?_; try clear hK37 K37
      simp only [bL, aops, bF]
      refine hK36 _ ?_; try clear hK36 K36
      refine AWp_cond (b := false) (by first | exact rfl | exact congrArg (fun b => AV.v (.bool b)) hb69) (fun h => (by cases h)) (fun _ => ?_)
      refine AWp_skip ?_
      try simp only [bF]
      refine hK17 _ ?_; try clear hK17 K17
      refine AWp_region ?_
      refine aops_chunk 1 fun C83 hC83 => ?_
      simp only [bL, ↓bO, bS, bA, bF, ↓reduceIte, Nat.reduceEqDiff, reduceCtorEq, tyX, List.length_map, hki, hcl, gM hxm, gM hci, hw1, RNode.cells, Int.natCast_add, Int.natCast_one, Int.cast_ofNat_Int, intC, hkk, hkM, gM hym, gM hck, hw2]
      refine hC83 _ ?_; clear hC83 C83
      simp only [bL]
      refine aops_chunk 1 fun C84 hC84 => ?_
      simp only [bL, ↓bO, bS, bA, bF, ↓reduceIte, Nat.reduceEqDiff, reduceCtorEq, aBin, tyX, List.length_map, hki, hcl, gM hxm, gM hci, hw1, RNode.cells, Int.natCast_add, Int.natCast_one, Int.cast_ofNat_Int, intC, hkk, hkM, gM hym, gM hck, hw2]
      refine hC84 _ ?_; clear hC84 C84
      simp only [bL]
      simp only [↓bO, bS, bA, bF, ↓reduceIte, Nat.reduceEqDiff, reduceCtorEq, tyX, List.length_map, hki, hcl, gM hxm, gM hci, hw1, RNode.cells, Int.natCast_add, Int.natCast_one, Int.cast_ofNat_Int, intC, hkk, hkM, gM hym, gM hck, hw2]
      refine ⟨(v + 1), ⟨by omega, hv.2.next hno⟩, by omega, ?_⟩
      simp only [maskL, setsL, putsO, putO, List.set_cons_zero, List.set_cons_succ, Nat.reduceEqDiff, ↓reduceIte, Int.natCast_add, Int.natCast_one, Int.cast_ofNat_Int]
      refine Weak.sub ?_ ⟨rfl, trivial⟩ (by first | omega | (simp only; omega)) (by first | omega | (simp only; omega)) ?_ ?_
      · simp only [LeL, Le.refl, Le.any, and_self]
      · repeat' first | exact trivial | exact .any _ | exact .ptr (by omega) | exact .v _ _ | exact Und.data (RNode.dataSl _) | exact Und.data (dataInts _) | exact Und.data (.eptr (RNode.data _)) | (refine ⟨?_, ?_⟩)
      · exact ⟨by omega, ⟨Und.data (RNode.dataSl _), Und.data (dataInts _), trivial⟩, trivial⟩
    ·
     simp only [List.set_cons_zero, List.set_cons_succ]
     have hk1 : x.t.k = 1 := by simpa using hc46
     have hno : c[s]? = c[v]? → ¬ ClashAt (shR M) s v := by rw [clashAt_iff hxm hym]; exact fun _ h => h.1 hk1
     refine dRun_skips 4 (by kernel_rfl) ?_
     simp only [uN, bL, bS, bA]
     refine dRun_chunk 1 fun C85 hC85 => ?_
     simp only [bL, ↓dRun, ↓dOp, ↓bO, bS, bA, bF, ↓reduceIte, Nat.reduceEqDiff, reduceCtorEq, aBool, tyX, List.length_map, hki, hcl, gM hxm, gM hci, hw1, RNode.cells, Int.natCast_add, Int.natCast_one, Int.cast_ofNat_Int, intC, hkk, hkM, gM hym, gM hck, hw2]
     refine hC85 _ ?_; clear hC85 C85
     simp only [bL]
     refine dRun_chunk 1 fun C86 hC86 => ?_
     simp only [bL, ↓dRun, ↓dOp, ↓bO, bS, bA, bF, ↓reduceIte, Nat.reduceEqDiff, reduceCtorEq, tyX, List.length_map, hki, hcl, gM hxm, gM hci, hw1, RNode.cells, Int.natCast_add, Int.natCast_one, Int.cast_ofNat_Int, intC, hkk, hkM, gM hym, gM hck, hw2]
     refine hC86 _ ?_; clear hC86 C86
     simp only [bL]
     refine dRun_skips 16 (by kernel_rfl) ?_
     simp only [uN, bL, bS, bA]
     simp only [↓dRun, ↓dOp, bL, ↓bO, bS, bA, bF, ↓reduceIte, Nat.reduceEqDiff, reduceCtorEq, aBool, tyX, List.length_map, hki, hcl, gM hxm, gM hci, hw1, RNode.cells, Int.natCast_add, Int.natCast_one, Int.cast_ofNat_Int, intC, hkk, hkM, gM hym, gM hck, hw2]
     refine hK37 _ ?_; try clear hK37 K37
     simp only [bL, aops, bF]
     refine hK36 _ ?_; try clear hK36 K36
     refine AWp_cond (b := false) (by first | exact rfl | exact congrArg (fun b => AV.v (.bool b)) hb69) (fun h => (by cases h)) (fun _ => ?_)
     refine AWp_skip ?_
     try simp only [bF]
     refine hK17 _ ?_; try clear hK17 K17
     refine AWp_region ?_
     refine aops_chunk 1 fun C87 hC87 => ?_
     simp only [bL, ↓bO, bS, bA, bF, ↓reduceIte, Nat.reduceEqDiff, reduceCtorEq, tyX, List.length_map, hki, hcl, gM hxm, gM hci, hw1, RNode.cells, Int.natCast_add, Int.natCast_one, Int.cast_ofNat_Int, intC, hkk, hkM, gM hym, gM hck, hw2]
     refine hC87 _ ?_; clear hC87 C87
     simp only [bL]
     refine aops_chunk 1 fun C88 hC88 => ?_
     simp only [bL, ↓bO, bS, bA, bF, ↓reduceIte, Nat.reduceEqDiff, reduceCtorEq, aBin, tyX, List.length_map, hki, hcl, gM hxm, gM hci, hw1, RNode.cells, Int.natCast_add, Int.natCast_one, Int.cast_ofNat_Int, intC, hkk, hkM, gM hym, gM hck, hw2]
     refine hC88 _ ?_; clear hC88 C88
     simp only [bL]
     simp only [↓bO, bS, bA, bF, ↓reduceIte, Nat.reduceEqDiff, reduceCtorEq, tyX, List.length_map, hki, hcl, gM hxm, gM hci, hw1, RNode.cells, Int.natCast_add, Int.natCast_one, Int.cast_ofNat_Int, intC, hkk, hkM, gM hym, gM hck, hw2]
     refine ⟨(v + 1), ⟨by omega, hv.2.next hno⟩, by omega, ?_⟩
     simp only [maskL, setsL, putsO, putO, List.set_cons_zero, List.set_cons_succ, Nat.reduceEqDiff, ↓reduceIte, Int.natCast_add, Int.natCast_one, Int.cast_ofNat_Int]
     refine Weak.sub ?_ ⟨rfl, trivial⟩ (by first | omega | (simp only; omega)) (by first | omega | (simp only; omega)) ?_ ?_
     · simp only [LeL, Le.refl, Le.any, and_self]
     · repeat' first | exact trivial | exact .any _ | exact .ptr (by omega) | exact .v _ _ | exact Und.data (RNode.dataSl _) | exact Und.data (dataInts _) | exact Und.data (.eptr (RNode.data _)) | (refine ⟨?_, ?_⟩)
     · exact ⟨by omega, ⟨Und.data (RNode.dataSl _), Und.data (dataInts _), trivial⟩, trivial⟩
   ·
    simp only [List.set_cons_zero, List.set_cons_succ]
    have hnc : ¬ ci = ck := by simpa using hc40
    have hno : c[s]? = c[v]? → ¬ ClashAt (shR M) s v := by rw [hci, hck]; exact fun e => absurd (Option.some.inj e) hnc
    refine dRun_skips 4 (by kernel_rfl) ?_
    simp only [uN, bL, bS, bA]
    refine dRun_chunk 1 fun C89 hC89 => ?_
    simp only [bL, ↓dRun, ↓dOp, ↓bO, bS, bA, bF, ↓reduceIte, Nat.reduceEqDiff, reduceCtorEq, aBool, tyX, List.length_map, hki, hcl, gM hxm, gM hci, hw1, RNode.cells, Int.natCast_add, Int.natCast_one, Int.cast_ofNat_Int, intC, hkk, hkM, gM hym, gM hck, hw2]
    refine hC89 _ ?_; clear hC89 C89
    simp only [bL]
    refine dRun_chunk 1 fun C90 hC90 => ?_
    simp only [bL, ↓dRun, ↓dOp, ↓bO, bS, bA, bF, ↓reduceIte, Nat.reduceEqDiff, reduceCtorEq, tyX, List.length_map, hki, hcl, gM hxm, gM hci, hw1, RNode.cells, Int.natCast_add, Int.natCast_one, Int.cast_ofNat_Int, intC, hkk, hkM, gM hym, gM hck, hw2]
    refine hC90 _ ?_; clear hC90 C90
    simp only [bL]
    refine dRun_skips 4 (by kernel_rfl) ?_
    simp only [uN, bL, bS, bA]
    refine dRun_chunk 1 fun C91 hC91 => ?_
    simp only [bL, ↓dRun, ↓dOp, ↓bO, bS, bA, bF, ↓reduceIte, Nat.reduceEqDiff, reduceCtorEq, aBool, tyX, List.length_map, hki, hcl, gM hxm, gM hci, hw1, RNode.cells, Int.natCast_add, Int.natCast_one, Int.cast_ofNat_Int, intC, hkk, hkM, gM hym, gM hck, hw2]
    refine hC91 _ ?_; clear hC91 C91
    simp only [bL]
    refine dRun_chunk 1 fun C92 hC92 => ?_
    simp only [bL, ↓dRun, ↓dOp, ↓bO, bS, bA, bF, ↓reduceIte, Nat.reduceEqDiff, reduceCtorEq, tyX, List.length_map, hki, hcl, gM hxm, gM hci, hw1, RNode.cells, Int.natCast_add, Int.natCast_one, Int.cast_ofNat_Int, intC, hkk, hkM, gM hym, gM hck, hw2]
    refine hC92 _ ?_; clear hC92 C92
    simp only [bL]
    refine dRun_skips 16 (by kernel_rfl) ?_
    simp only [uN, bL, bS, bA]
    simp only [↓dRun, ↓dOp, bL, ↓bO, bS, bA, bF, ↓reduceIte, Nat.reduceEqDiff, reduceCtorEq, aBool, tyX, List.length_map, hki, hcl, gM hxm, gM hci, hw1, RNode.cells, Int.natCast_add, Int.natCast_one, Int.cast_ofNat_Int, intC, hkk, hkM, gM hym, gM hck, hw2]
    refine hK37 _ ?_; try clear hK37 K37
    simp only [bL, aops, bF]
    refine hK36 _ ?_; try clear hK36 K36
    refine AWp_cond (b := false) (by first | exact rfl | exact congrArg (fun b => AV.v (.bool b)) hb69) (fun h => (by cases h)) (fun _ => ?_)
    refine AWp_skip ?_
    try simp only [bF]
    refine hK17 _ ?_; try clear hK17 K17
    refine AWp_region ?_
    refine aops_chunk 1 fun C93 hC93 => ?_
    simp only [bL, ↓bO, bS, bA, bF, ↓reduceIte, Nat.reduceEqDiff, reduceCtorEq, tyX, List.length_map, hki, hcl, gM hxm, gM hci, hw1, RNode.cells, Int.natCast_add, Int.natCast_one, Int.cast_ofNat_Int, intC, hkk, hkM, gM hym, gM hck, hw2]
    refine hC93 _ ?_; clear hC93 C93
    simp only [bL]
    refine aops_chunk 1 fun C94 hC94 => ?_
    simp only [bL, ↓bO, bS, bA, bF, ↓reduceIte, Nat.reduceEqDiff, reduceCtorEq, aBin, tyX, List.length_map, hki, hcl, gM hxm, gM hci, hw1, RNode.cells, Int.natCast_add, Int.natCast_one, Int.cast_ofNat_Int, intC, hkk, hkM, gM hym, gM hck, hw2]
    refine hC94 _ ?_; clear hC94 C94
    simp only [bL]
    simp only [↓bO, bS, bA, bF, ↓reduceIte, Nat.reduceEqDiff, reduceCtorEq, tyX, List.length_map, hki, hcl, gM hxm, gM hci, hw1, RNode.cells, Int.natCast_add, Int.natCast_one, Int.cast_ofNat_Int, intC, hkk, hkM, gM hym, gM hck, hw2]
    refine ⟨(v + 1), ⟨by omega, hv.2.next hno⟩, by omega, ?_⟩
    simp only [maskL, setsL, putsO, putO, List.set_cons_zero, List.set_cons_succ, Nat.reduceEqDiff, ↓reduceIte, Int.natCast_add, Int.natCast_one, Int.cast_ofNat_Int]
    refine Weak.sub ?_ ⟨rfl, trivial⟩ (by first | omega | (simp only; omega)) (by first | omega | (simp only; omega)) ?_ ?_
    · simp only [LeL, Le.refl, Le.any, and_self]
    · repeat' first | exact trivial | exact .any _ | exact .ptr (by omega) | exact .v _ _ | exact Und.data (RNode.dataSl _) | exact Und.data (dataInts _) | exact Und.data (.eptr (RNode.data _)) | (refine ⟨?_, ?_⟩)
    · exact ⟨by omega, ⟨Und.data (RNode.dataSl _), Und.data (dataInts _), trivial⟩, trivial⟩
  ·
   have hkv : v = s := by have h9 := hb16; simp at h9; have := hv.1; omega
   refine AWp_exit ?_
   simp only [bF, bA, Nat.reduceEqDiff, ↓reduceIte]
   refine hK11 _ ?_; try clear hK11 K11
   refine AWp_region ?_
   refine aops_chunk 1 fun C95 hC95 => ?_
   simp only [bL, ↓bO, bS, bA, bF, ↓reduceIte, Nat.reduceEqDiff, reduceCtorEq, tyX, List.length_map, hki, hcl, gM hxm, gM hci, hw1, RNode.cells, Int.natCast_add, Int.natCast_one, Int.cast_ofNat_Int, intC]
   refine hC95 _ ?_; clear hC95 C95
   simp only [bL]
   refine aops_chunk 1 fun C96 hC96 => ?_
   simp only [bL, ↓bO, bS, bA, bF, ↓reduceIte, Nat.reduceEqDiff, reduceCtorEq, aBin, tyX, List.length_map, hki, hcl, gM hxm, gM hci, hw1, RNode.cells, Int.natCast_add, Int.natCast_one, Int.cast_ofNat_Int, intC]
   refine hC96 _ ?_; clear hC96 C96
   simp only [bL]
   simp only [↓bO, bS, bA, bF, ↓reduceIte, Nat.reduceEqDiff, reduceCtorEq, tyX, List.length_map, hki, hcl, gM hxm, gM hci, hw1, RNode.cells, Int.natCast_add, Int.natCast_one, Int.cast_ofNat_Int, intC]
   refine ⟨(s + 1), ⟨by omega, (hkv ▸ hv.2).row⟩, by omega, ?_⟩
   simp only [maskL, setsL, putsO, putO, bA, Nat.reduceEqDiff, ↓reduceIte, hki, hcl, gM hxm, gM hci, hw1, RNode.cells, Int.natCast_add, Int.natCast_one, Int.cast_ofNat_Int, intC]
   exact Weak.mk (by simp only [LeL, Le.refl, Le.any, Le.slNil, and_self, Int.natCast_add, Int.cast_ofNat_Int, Int.natCast_one]) (fun _ _ h => h) rfl rfl
 ·
  have hks : s = M.length := by have h9 := hb11; simp at h9; have := hs.1; omega
  refine AWp_exit ?_
  simp only [bF, bA, Nat.reduceEqDiff, ↓reduceIte]
  refine hK3 _ ?_; try clear hK3 K3
  refine AWp_seqK fun K97 hK97 => ?_
  refine AWp_region ?_
  simp only [↓bO, bS, bA, bF, ↓reduceIte, Nat.reduceEqDiff, reduceCtorEq, tyX, List.length_map]
  refine hK97 _ ?_; try clear hK97 K97
  refine AWp_ret ?_
  try simp only [bF, retQ, aRes, tupOf, bS, bA]
  rw [(hks ▸ hs.2 : NoCl M c M.length 0).all]; exact Le.refl _
theorem RFirst_pure (es : List EqT) (hsum : sumP (es.map EqT.p) ≤ 160) : APure Try.prog 38 [.sl 8 (es.map EqT.cells)] (.tup [.v (.int .i64 (firstG [] (es.map EqT.p)).1), .v (.int .i64 (firstG [] (es.map EqT.p)).2)]) := by
 refine APure.mkL (.cons (EqT.dataSl es) .nil) (.tup (.cons (.v _) (.cons (.v _) .nil))) ?_
 refine ACalls_intro Try.func38 (by kernel_rfl) rfl (by rw [Try.ntmps38]; simp) (fun hm => ?_)
 simp only [Try.ntmps38, Try.results38, List.length_cons, List.length_nil, Nat.reduceAdd, Nat.reduceSub, List.replicate_succ, List.replicate_zero, List.cons_append, List.nil_append]
 have hm1 := sumP_len (es.map EqT.p)
 rw [List.length_map] at hm1
 refine AWp_seqK fun K1 hK1 => ?_
 refine AWp_region ?_
 simp only [↓bO, bS, bA, bF, ↓reduceIte, Nat.reduceEqDiff, reduceCtorEq, tyX, List.length_map]
 refine hK1 _ ?_; try clear hK1 K1
 refine AWp_seqK fun K2 hK2 => ?_
 refine AWp_seqK fun K3 hK3 => ?_
 refine AWp_region ?_
 simp only [↓bO, bS, bA, bF, ↓reduceIte, Nat.reduceEqDiff, reduceCtorEq, tyX, List.length_map]
 refine hK3 _ ?_; try clear hK3 K3
 refine AWp_block ?_
 refine AWp_loopM (σ := Nat) [true, false, false, false, true, false, false, false, false, false, false, false, false, false, false, false, false, false, false, false, false, false, false, false, false, false, false, false, false, false, false, false, false, false, false] (fun s => s ≤ es.length ∧ firstG ((es.map EqT.p).take s) ((es.map EqT.p).drop s) = firstG [] (es.map EqT.p) ∧ ∀ e ∈ (es.map EqT.p).take s, (e.1.right && e.2.right) = true) (fun s => [(4, .v (.int .i64 (s : Int)))]) (fun s => []) (fun s => es.length - s) 0 (⟨by omega, rfl, by simp⟩) ?_ (fun s hs => ?_)
 ·
  simp only [maskL, setsL, putsO, putO, bA, Nat.reduceEqDiff, ↓reduceIte]
  exact Weak.mk (by simp only [LeL, Le.refl, Le.any, Le.slNil, and_self, Int.natCast_add, Int.cast_ofNat_Int, Int.natCast_one]) (fun _ _ h => h) rfl rfl
 simp only [maskL, setsL, putsO, putO, bA, Nat.reduceEqDiff, ↓reduceIte]
 refine AWp_seqK fun K4 hK4 => ?_
 refine AWp_seqK fun K5 hK5 => ?_
 refine AWp_region ?_
 simp only [↓bO, bS, bA, bF, ↓reduceIte, Nat.reduceEqDiff, reduceCtorEq, getO, aLenX, aLen, ln61, List.length_map, aBin, tyX]
 refine hK5 _ ?_; try clear hK5 K5
 refine AWp_cond rfl (fun hb8 => ?_) (fun hb8 => ?_)
 ·
  have hk : s < es.length := by simpa using hb8
  obtain ⟨e, he⟩ : ∃ e, es[s]? = some e := ⟨_, List.getElem?_eq_getElem hk⟩
  have hep : (es.map EqT.p)[s]? = some e.p := by rw [List.getElem?_map, he]; rfl
  have het : (es.map EqT.p).take (s + 1) = (es.map EqT.p).take s ++ [e.p] := by rw [List.take_add_one, hep]; rfl
  have hst := sumP_take (es.map EqT.p) (s + 1)
  have hmt : (es.take (s + 1)).map EqT.p = (es.map EqT.p).take (s + 1) := List.map_take
  have hw : IntKind.i64.wrap ((s : Int) + 1) = (s : Int) + 1 := wrap_in (by omega) (by omega)
  have hsl1 : (0 : Int) ≤ (s : Int) + 1 := by omega
  have hsl2 : (s : Int) + 1 ≤ (es.length : Int) := by omega
  have hsl3 : ((s : Int) + 1).toNat = s + 1 := by omega
  have hml := eqF_mlen ((es.map EqT.p).take (s + 1))
  refine AWp_skip ?_
  try simp only [bF]
  refine hK4 _ ?_; try clear hK4 K4
  refine AWp_seqK fun K6 hK6 => ?_
  refine AWp_block ?_
  refine AWp_seqK fun K7 hK7 => ?_
  refine AWp_seqK fun K8 hK8 => ?_
  refine AWp_region ?_
  refine aops_chunk 4 fun C9 hC9 => ?_
  simp only [bL, ↓bO, bS, bA, bF, ↓reduceIte, Nat.reduceEqDiff, reduceCtorEq, getO, aIndexA, es61, Int.natCast_nonneg, Int.ofNat_lt, Int.toNat_natCast, List.length_map, Int.le_refl, Int.toNat_zero, Int.toNat_one, Int.reduceLE, aField, fo73_0, Nat.reduceAdd, tyX, hk, gM he, EqT.cells, Ty.refold, hw, hsl1, hsl2, hsl3, Int.natCast_add, Int.natCast_one, Int.cast_ofNat_Int, intC]
  refine hC9 _ ?_; clear hC9 C9
  simp only [bL]
  refine aops_chunk 1 fun C10 hC10 => ?_
  simp only [bL, ↓bO, bS, bA, bF, ↓reduceIte, Nat.reduceEqDiff, reduceCtorEq, aLoad, ti32, getO, pack, Nat.reduceAdd, Nat.reduceLeDiff, tyX, List.length_map, hk, gM he, EqT.cells, Ty.refold, hw, hsl1, hsl2, hsl3, Int.natCast_add, Int.natCast_one, Int.cast_ofNat_Int, intC]
  refine hC10 _ ?_; clear hC10 C10
  simp only [bL]
  refine aops_chunk 1 fun C11 hC11 => ?_
  simp only [bL, ↓bO, bS, bA, bF, ↓reduceIte, Nat.reduceEqDiff, reduceCtorEq, aCallV, tyX, List.length_map, hk, gM he, EqT.cells, Ty.refold, hw, hsl1, hsl2, hsl3, Int.natCast_add, Int.natCast_one, Int.cast_ofNat_Int, intC]
  refine APure.call (RefRight_pure e.l) ?_
  try simp only [bS, bA, bF]
  refine hC11 _ ?_; clear hC11 C11
  simp only [bL]
  refine aops_chunk 2 fun C12 hC12 => ?_
  simp only [bL, ↓bO, bS, bA, bF, ↓reduceIte, Nat.reduceEqDiff, reduceCtorEq, aUn, tyX, List.length_map, hk, gM he, EqT.cells, Ty.refold, hw, hsl1, hsl2, hsl3, Int.natCast_add, Int.natCast_one, Int.cast_ofNat_Int, intC]
  refine hC12 _ ?_; clear hC12 C12
  simp only [bL]
  refine aops_case 18 rfl (fun hc18 => ?_) (fun hc18 => ?_)
  ·
   simp only [List.set_cons_zero, List.set_cons_succ]
   have hno : (e.p.1.right && e.p.2.right) = false := by (have h9 : e.l.right = false := by simpa using hc18); exact (by rw [show e.p.1.right = false from h9]; rfl)
   refine aops_chunk 4 fun C13 hC13 => ?_
   simp only [bL, ↓bO, bS, bA, bF, ↓reduceIte, Nat.reduceEqDiff, reduceCtorEq, undef, getO, aIndexA, es61, Int.natCast_nonneg, Int.ofNat_lt, Int.toNat_natCast, List.length_map, Int.le_refl, Int.toNat_zero, Int.toNat_one, Int.reduceLE, aField, fo73_1, Nat.reduceAdd, tyX, hk, gM he, EqT.cells, Ty.refold, hw, hsl1, hsl2, hsl3, Int.natCast_add, Int.natCast_one, Int.cast_ofNat_Int, intC]
   refine hC13 _ ?_; clear hC13 C13
   simp only [bL]
   simp only [↓bO, bS, bA, bF, ↓reduceIte, Nat.reduceEqDiff, reduceCtorEq, bL, undef, aLoad, ti32, getO, pack, Nat.reduceAdd, Nat.reduceLeDiff, aCallV, aUn, aBool, tyX, List.length_map, hk, gM he, EqT.cells, Ty.refold, hw, hsl1, hsl2, hsl3, Int.natCast_add, Int.natCast_one, Int.cast_ofNat_Int, intC]
   refine hK8 _ ?_; try clear hK8 K8
   refine AWp_cond (b := true) (by first | exact rfl | exact congrArg (fun b => AV.v (.bool b)) hb26) (fun _ => ?_) (fun h => (by cases h))
   refine AWp_seqK fun K14 hK14 => ?_
   refine AWp_region ?_
   simp only [↓bO, bS, bA, bF, ↓reduceIte, Nat.reduceEqDiff, reduceCtorEq, tyX, List.length_map, hk, gM he, EqT.cells, Ty.refold, hw, hsl1, hsl2, hsl3, Int.natCast_add, Int.natCast_one, Int.cast_ofNat_Int, intC]
   refine hK14 _ ?_; try clear hK14 K14
   refine AWp_ret ?_
   try simp only [bF, retQ, aRes, tupOf, bS, bA]
   have hv : firstG [] (es.map EqT.p) = ((s : Int), 1) := hs.2.1.symm.trans (firstG_bad hep hno)
   rw [hv]; exact Le.refl _
  ·
   simp only [List.set_cons_zero, List.set_cons_succ]
   have hlr : e.l.right = true := by simpa using hc18
   refine aops_chunk 4 fun C15 hC15 => ?_
   simp only [bL, ↓bO, bS, bA, bF, ↓reduceIte, Nat.reduceEqDiff, reduceCtorEq, undef, getO, aIndexA, es61, Int.natCast_nonneg, Int.ofNat_lt, Int.toNat_natCast, List.length_map, Int.le_refl, Int.toNat_zero, Int.toNat_one, Int.reduceLE, aField, fo73_1, Nat.reduceAdd, tyX, hk, gM he, EqT.cells, Ty.refold, hw, hsl1, hsl2, hsl3, Int.natCast_add, Int.natCast_one, Int.cast_ofNat_Int, intC]
   refine hC15 _ ?_; clear hC15 C15
   simp only [bL]
   refine aops_chunk 1 fun C16 hC16 => ?_
   simp only [bL, ↓bO, bS, bA, bF, ↓reduceIte, Nat.reduceEqDiff, reduceCtorEq, undef, aLoad, ti32, getO, pack, Nat.reduceAdd, Nat.reduceLeDiff, tyX, List.length_map, hk, gM he, EqT.cells, Ty.refold, hw, hsl1, hsl2, hsl3, Int.natCast_add, Int.natCast_one, Int.cast_ofNat_Int, intC]
   refine hC16 _ ?_; clear hC16 C16
   simp only [bL]
   refine aops_chunk 1 fun C17 hC17 => ?_
   simp only [bL, ↓bO, bS, bA, bF, ↓reduceIte, Nat.reduceEqDiff, reduceCtorEq, undef, aCallV, tyX, List.length_map, hk, gM he, EqT.cells, Ty.refold, hw, hsl1, hsl2, hsl3, Int.natCast_add, Int.natCast_one, Int.cast_ofNat_Int, intC]
   refine APure.call (RefRight_pure e.r) ?_
   try simp only [bS, bA, bF]
   refine hC17 _ ?_; clear hC17 C17
   simp only [bL]
   simp only [↓bO, bS, bA, bF, ↓reduceIte, Nat.reduceEqDiff, reduceCtorEq, bL, undef, aUn, aBool, tyX, List.length_map, hk, gM he, EqT.cells, Ty.refold, hw, hsl1, hsl2, hsl3, Int.natCast_add, Int.natCast_one, Int.cast_ofNat_Int, intC]
   refine hK8 _ ?_; try clear hK8 K8
   refine AWp_cond rfl (fun hb26 => ?_) (fun hb26 => ?_)
   ·
    have hno : (e.p.1.right && e.p.2.right) = false := by (have h9 : e.r.right = false := by simpa using hb26); exact (by rw [show e.p.2.right = false from h9, Bool.and_false])
    refine AWp_seqK fun K18 hK18 => ?_
    refine AWp_region ?_
    simp only [↓bO, bS, bA, bF, ↓reduceIte, Nat.reduceEqDiff, reduceCtorEq, tyX, List.length_map, hk, gM he, EqT.cells, Ty.refold, hw, hsl1, hsl2, hsl3, Int.natCast_add, Int.natCast_one, Int.cast_ofNat_Int, intC]
    refine hK18 _ ?_; try clear hK18 K18
    refine AWp_ret ?_
    try simp only [bF, retQ, aRes, tupOf, bS, bA]
    have hv : firstG [] (es.map EqT.p) = ((s : Int), 1) := hs.2.1.symm.trans (firstG_bad hep hno)
    rw [hv]; exact Le.refl _
   ·
    have hrr : (e.p.1.right && e.p.2.right) = true := by (have h9 : e.r.right = true := by simpa using hb26); exact (by rw [show e.p.1.right = true from hlr, show e.p.2.right = true from h9]; rfl)
    have hrs : ∀ x ∈ (es.map EqT.p).take (s + 1), (x.1.right && x.2.right) = true := by
     intro x hx
     rw [het] at hx
     rcases List.mem_append.1 hx with hx | hx
     · exact hs.2.2 x hx
     · simp only [List.mem_singleton] at hx; subst hx; exact hrr
    refine AWp_skip ?_
    try simp only [bF]
    refine hK7 _ ?_; try clear hK7 K7
    refine AWp_seqK fun K19 hK19 => ?_
    refine AWp_region ?_
    refine aops_chunk 4 fun C20 hC20 => ?_
    simp only [bL, ↓bO, bS, bA, bF, ↓reduceIte, Nat.reduceEqDiff, reduceCtorEq, aBin, aMore, aSlice, aBnd, es61, Option.map_some, Option.map_none, Int.toNat_natCast, Int.toNat_zero, Int.toNat_one, Int.reduceLE, Int.natCast_nonneg, List.length_map, List.take_length, Int.le_refl, tyX, hk, gM he, EqT.cells, Ty.refold, hw, hsl1, hsl2, hsl3, Int.natCast_add, Int.natCast_one, Int.cast_ofNat_Int, intC]
    refine hC20 _ ?_; clear hC20 C20
    simp only [bL]
    refine aops_chunk 1 fun C21 hC21 => ?_
    simp only [bL, ↓bO, bS, bA, bF, ↓reduceIte, Nat.reduceEqDiff, reduceCtorEq, aCallV, tyX, List.length_map, hk, gM he, EqT.cells, Ty.refold, hw, hsl1, hsl2, hsl3, Int.natCast_add, Int.natCast_one, Int.cast_ofNat_Int, intC]
    rw [← List.map_take]
    refine Close_at (es.take (s + 1)) (by rw [hmt]; omega) (by rw [hmt]; exact hrs) (fun c hc hcb => ?_)
    rw [hmt] at hcb hc ⊢
    try simp only [bS, bA, bF]
    refine hC21 _ ?_; clear hC21 C21
    simp only [bL]
    simp only [↓bO, bS, bA, bF, ↓reduceIte, Nat.reduceEqDiff, reduceCtorEq, aCallV, bL, tyX, List.length_map, hk, gM he, EqT.cells, Ty.refold, hw, hsl1, hsl2, hsl3, Int.natCast_add, Int.natCast_one, Int.cast_ofNat_Int, intC]
    refine APure.call (Clash_pure (eqF ((es.map EqT.p).take (s + 1))).1 c hc.col.len (by omega)) ?_
    try simp only [bS, bA, bF]
    refine hK19 _ ?_; try clear hK19 K19
    refine AWp_cond rfl (fun hb33 => ?_) (fun hb33 => ?_)
    ·
     have hcla : Clashes ((es.map EqT.p).take (s + 1)) := hcb.1 hb33
     refine AWp_seqK fun K22 hK22 => ?_
     refine AWp_region ?_
     simp only [↓bO, bS, bA, bF, ↓reduceIte, Nat.reduceEqDiff, reduceCtorEq, tyX, List.length_map, hk, gM he, EqT.cells, Ty.refold, hw, hsl1, hsl2, hsl3, Int.natCast_add, Int.natCast_one, Int.cast_ofNat_Int, intC]
     refine hK22 _ ?_; try clear hK22 K22
     refine AWp_ret ?_
     try simp only [bF, retQ, aRes, tupOf, bS, bA]
     have hv : firstG [] (es.map EqT.p) = ((s : Int), 7) := hs.2.1.symm.trans (firstG_clash hep hrr hcla)
     rw [hv]; exact Le.refl _
    ·
     have hncl : ¬ Clashes ((es.map EqT.p).take (s + 1)) := fun h9 => by rw [hcb.2 h9] at hb33; cases hb33
     have hfs := firstG_step hep hrr hncl
     refine AWp_skip ?_
     try simp only [bF]
     refine hK6 _ ?_; try clear hK6 K6
     refine AWp_region ?_
     simp only [↓bO, bS, bA, bF, ↓reduceIte, Nat.reduceEqDiff, reduceCtorEq, aBin, tyX, List.length_map, hk, gM he, EqT.cells, Ty.refold, hw, hsl1, hsl2, hsl3, Int.natCast_add, Int.natCast_one, Int.cast_ofNat_Int, intC]
     refine ⟨(s + 1), ⟨by omega, hfs.symm.trans hs.2.1, hrs⟩, by omega, ?_⟩
     simp only [maskL, setsL, putsO, putO, bA, Nat.reduceEqDiff, ↓reduceIte, hk, gM he, EqT.cells, Ty.refold, hw, hsl1, hsl2, hsl3, Int.natCast_add, Int.natCast_one, Int.cast_ofNat_Int, intC]
     exact Weak.mk (by simp only [LeL, Le.refl, Le.any, Le.slNil, and_self, Int.natCast_add, Int.cast_ofNat_Int, Int.natCast_one]) (fun _ _ h => h) rfl rfl
 ·
  have hk : s = es.length := by have h9 := hb8; simp at h9; have := hs.1; omega
  have hval := hs.2.1
  rw [hk, List.drop_of_length_le (by simp), firstG_end] at hval
  refine AWp_exit ?_
  simp only [bF, bA, Nat.reduceEqDiff, ↓reduceIte]
  refine hK2 _ ?_; try clear hK2 K2
  refine AWp_seqK fun K23 hK23 => ?_
  refine AWp_region ?_
  simp only [↓bO, bS, bA, bF, ↓reduceIte, Nat.reduceEqDiff, reduceCtorEq, tyX, List.length_map]
  refine hK23 _ ?_; try clear hK23 K23
  refine AWp_ret ?_
  try simp only [bF, retQ, aRes, tupOf, bS, bA]
  rw [← hval]; exact Le.refl _
end Go.Proofs.Ytohdoloalolpfaa
namespace Go.Proofs.Ytohdoloalolpfaa
open Go Go.RowKit
set_option maxRecDepth 100000
set_option maxHeartbeats 1000000
set_option linter.unusedSimpArgs false
set_option linter.unusedVariables false
attribute [local irreducible] aops dRun
def Ty.big (t : Ty) : Bool := decide (t.room 100 30 < 0)
theorem Ty.big_cnt {t : Ty} (h : t.big = false) : t.cnt ≤ 100 := by
  simp only [Ty.big, decide_eq_false_iff_not] at h
  have := Ty.room_cnt t 100 30 (by omega) (by omega)
  omega
def bigE (e : Ty × Ty) : Bool := e.1.big || e.2.big
def greatE (l : List (Ty × Ty)) : Bool := (l.take 30).any bigE || decide (20 < l.length) || decide (160 < sumP (l.take 30))
theorem greatE_true {l : List (Ty × Ty)} {s : Nat} {e : Ty × Ty} (hp : l[s]? = some e) (hs : s < 30) (h : bigE e = true) : greatE l = true := by
  have h1 : (l.take 30).any bigE = true := all_not_of (i := s) (p := e) (by rw [List.getElem?_take, if_pos hs]; exact hp) h
  simp only [greatE, h1, Bool.true_or]
theorem greatE_end {l : List (Ty × Ty)} {s : Nat} (hs : ¬ (s < l.length ∧ s < 30)) (h1 : s ≤ l.length) (h2 : s ≤ 30) (h : ∀ (i : Nat) (p : Ty × Ty), i < s → l[i]? = some p → bigE p = false) :
    greatE l = (decide (20 < l.length) || decide (160 < sumP (l.take s))) := by
  have e : l.take 30 = l.take s := by
    rcases Nat.lt_or_ge s 30 with h3 | h3
    · have h4 : s = l.length := by omega
      subst h4
      rw [List.take_length, List.take_of_length_le (by omega)]
    · rw [show s = 30 by omega]
  have h0 : (l.take s).any bigE = false := any_false_of fun i p hi hp => by
    rw [List.getElem?_take] at hp
    split at hp
    · exact h i p (by assumption) hp
    · cases hp
  simp only [greatE, e, h0, Bool.false_or]
theorem greatE_spec {l : List (Ty × Ty)} (h : greatE l = false) : l.length ≤ 20 ∧ sumP l ≤ 160 := by
  simp only [greatE, Bool.or_eq_false_iff, decide_eq_false_iff_not] at h
  obtain ⟨⟨h1, h2⟩, h3⟩ := h
  rw [List.take_of_length_le (by omega)] at h3
  exact ⟨by omega, by omega⟩
theorem sumP_step {l : List (Ty × Ty)} {s : Nat} {e : Ty × Ty} (h : l[s]? = some e) : sumP (l.take (s + 1)) = sumP (l.take s) + (e.1.cnt + e.2.cnt) := by
  rw [List.take_add_one, h]
  exact sumP_snoc _ _
theorem room12_pure : ∀ (T : Ty) (n : Int) (d : Nat) (hn : 0 ≤ n) (hn2 : n ≤ 1099511627776) (hd : d ≤ 1099511627776), APure Try.prog 95 [.agg T.cells, .v (.int .i64 n), .v (.int .i64 d)] (.v (.int .i64 (T.room n d))) := by
 refine Ty.ind fun T ih => ?_
 intro n d hn hn2 hd
 refine APure.mkL (.cons T.dataAgg (.cons (.v _) (.cons (.v _) .nil))) (.v _) ?_
 refine ACalls_intro Try.func95 (by kernel_rfl) rfl (by rw [Try.ntmps95]; simp) (fun hm => ?_)
 simp only [Try.ntmps95, Try.results95, List.length_cons, List.length_nil, Nat.reduceAdd, Nat.reduceSub, List.replicate_succ, List.replicate_zero, List.cons_append, List.nil_append]
 have hm1 := hm.wide (t := T) (by simp)
 have hw1 : IntKind.i64.wrap (n - 1) = n - 1 := wrap_in (by omega) (by omega)
 refine AWp_seqK fun K1 hK1 => ?_
 refine AWp_region ?_
 simp only [↓bO, bS, bA, bF, ↓reduceIte, Nat.reduceEqDiff, reduceCtorEq, tyX, hw1]
 refine hK1 _ ?_; try clear hK1 K1
 refine AWp_seqK fun K2 hK2 => ?_
 refine AWp_region ?_
 simp only [↓bO, bS, bA, bF, ↓reduceIte, Nat.reduceEqDiff, reduceCtorEq, aBin, tyX, hw1]
 refine hK2 _ ?_; try clear hK2 K2
 refine AWp_seqK fun K3 hK3 => ?_
 refine AWp_seqK fun K4 hK4 => ?_
 refine AWp_region ?_
 simp only [↓bO, bS, bA, bF, ↓reduceIte, Nat.reduceEqDiff, reduceCtorEq, aBin, tyX, hw1]
 refine hK4 _ ?_; try clear hK4 K4
 refine AWp_cond rfl (fun hb11 => ?_) (fun hb11 => ?_)
 ·
  have hd0 : d = 0 := by simpa using hb11
  refine AWp_seqK fun K5 hK5 => ?_
  refine AWp_region ?_
  simp only [↓bO, bS, bA, bF, ↓reduceIte, Nat.reduceEqDiff, reduceCtorEq, tyX, hw1]
  refine hK5 _ ?_; try clear hK5 K5
  refine AWp_ret ?_
  try simp only [bF, retQ, aRes, tupOf, bS, bA]
  refine Le.of_eq (congrArg (fun n => AV.v (.int .i64 n)) ?_)
  first | (rw [hd0, Ty.room_zero]; done) | skip
  all_goals (rw [Ty.room_succ]; simp only [decide_eq_false_iff_not] at hb20; rcases Nat.lt_or_ge s T.ps.length with h5 | h5 <;> first | (rw [List.take_of_length_le h5]; done) | (rw [Ty.roomL_stop T.ps s _ _ (by omega)]; done))
 ·
  obtain ⟨e, rfl⟩ : ∃ e, d = e + 1 := ⟨d - 1, by simp at hb11; omega⟩
  have hw2 : IntKind.i64.wrap ((e : Int) + 1 - 1) = (e : Int) := by rw [wrap_in (by omega) (by omega)]; omega
  refine AWp_skip ?_
  try simp only [bF]
  refine hK3 _ ?_; try clear hK3 K3
  refine AWp_seqK fun K6 hK6 => ?_
  refine AWp_seqK fun K7 hK7 => ?_
  refine AWp_region ?_
  simp only [↓bO, bS, bA, bF, ↓reduceIte, Nat.reduceEqDiff, reduceCtorEq, tyX, hw1]
  refine hK7 _ ?_; try clear hK7 K7
  refine AWp_block ?_
  refine AWp_loopM (σ := Nat) [false, true, true, true, false, false, false, true, false, false, false, false, false, false, false, false, false, false, false, false, false, false, false, false, false, false, false, false, false, false, false, false, false] (fun s => s ≤ T.ps.length) (fun s => [(1, .v (.int .i64 (Ty.roomL (T.ps.take s) (n - 1) e))), (7, .v (.int .i64 (s : Int)))]) (fun s => []) (fun s => T.ps.length - s) 0 (by omega) ?_ (fun s hs => ?_)
  ·
   simp only [maskL, setsL, putsO, putO, bA, Nat.reduceEqDiff, ↓reduceIte, bL, Ty.roomL]
   exact Weak.mk (by simp only [LeL, Le.refl, Le.any, Le.slNil, and_self, Int.natCast_add, Int.cast_ofNat_Int, Int.natCast_one]) (fun _ _ h => h) rfl rfl
  simp only [maskL, setsL, putsO, putO, bA, Nat.reduceEqDiff, ↓reduceIte]
  refine AWp_seqK fun K8 hK8 => ?_
  refine AWp_joinM [false, true, true, true, false, false, false, true, false, false, false, false, false, false, false, false, false, false, false, false, true, false, false, false, false, false, false, false, false, false, false, false, false] ([(20, .v (.bool (decide (s < T.ps.length ∧ 0 ≤ Ty.roomL (T.ps.take s) (n - 1) e))))]) ([]) ?_ ?_
  ·
   refine AWp_region ?_
   refine aops_chunk 4 fun C9 hC9 => ?_
   simp only [bL, ↓bO, bS, bA, bF, ↓reduceIte, Nat.reduceEqDiff, reduceCtorEq, aField, fo32_2, Nat.reduceAdd, aLoad, ti22, getO, pack, Nat.reduceLeDiff, aLenX, aLen, ln22, List.length_map, tyX, hw1]
   refine hC9 _ ?_; clear hC9 C9
   simp only [bL]
   refine aops_chunk 2 fun C10 hC10 => ?_
   simp only [bL, ↓bO, bS, bA, bF, ↓reduceIte, Nat.reduceEqDiff, reduceCtorEq, aBin, tyX, hw1]
   refine hC10 _ ?_; clear hC10 C10
   simp only [bL]
   refine aops_case 17 rfl (fun hc17 => ?_) (fun hc17 => ?_)
   ·
    simp only [List.set_cons_zero, List.set_cons_succ]
    simp only [↓bO, bS, bA, bF, ↓reduceIte, Nat.reduceEqDiff, reduceCtorEq, bL, undef, aBin, aBool, tyX, hw1]
    try simp only [maskL, setsL, putsO, putO, bA, Nat.reduceEqDiff, ↓reduceIte]
    refine Weak.mk ?_ (fun _ _ h => h) rfl rfl
    simp only [LeL, Le.refl, Le.any, and_self, and_true, true_and]
    all_goals (refine Le.of_eq (congrArg (fun b => AV.v (.bool b)) ?_); rw [Bool.eq_iff_iff]; simp only [decide_eq_true_eq, decide_eq_false_iff_not, ge_iff_le, Bool.false_eq_true, false_iff, Int.ofNat_lt] at *; omega)
   ·
    simp only [List.set_cons_zero, List.set_cons_succ]
    simp only [↓bO, bS, bA, bF, ↓reduceIte, Nat.reduceEqDiff, reduceCtorEq, bL, undef, aBin, aBool, tyX, hw1]
    try simp only [maskL, setsL, putsO, putO, bA, Nat.reduceEqDiff, ↓reduceIte]
    refine Weak.mk ?_ (fun _ _ h => h) rfl rfl
    simp only [LeL, Le.refl, Le.any, and_self, and_true, true_and]
    all_goals (refine Le.of_eq (congrArg (fun b => AV.v (.bool b)) ?_); rw [Bool.eq_iff_iff]; simp only [decide_eq_true_eq, decide_eq_false_iff_not, ge_iff_le, Bool.false_eq_true, false_iff, Int.ofNat_lt] at *; omega)
  simp only [maskL, setsL, putsO, putO, bA, Nat.reduceEqDiff, ↓reduceIte]
  refine AWp_cond rfl (fun hb20 => ?_) (fun hb20 => ?_)
  ·
   have hk : s < T.ps.length := by simp only [decide_eq_true_eq] at hb20; exact hb20.1
   obtain ⟨p, hp⟩ : ∃ p, T.ps[s]? = some p := ⟨_, List.getElem?_eq_getElem hk⟩
   have hw : IntKind.i64.wrap ((s : Int) + 1) = (s : Int) + 1 := wrap_in (by omega) (by have := hm1.len; simp only [maxLen] at this; omega)
   have hrm : 0 ≤ Ty.roomL (T.ps.take s) (n - 1) e := by simp only [decide_eq_true_eq] at hb20; exact hb20.2
   have hrl := Ty.roomL_le (T.ps.take s) (n - 1) e (by omega)
   refine AWp_skip ?_
   try simp only [bF]
   refine hK8 _ ?_; try clear hK8 K8
   refine AWp_seqK fun K11 hK11 => ?_
   refine AWp_block ?_
   refine AWp_region ?_
   refine aops_chunk 4 fun C12 hC12 => ?_
   simp only [bL, ↓bO, bS, bA, bF, ↓reduceIte, Nat.reduceEqDiff, reduceCtorEq, aField, fo32_2, Nat.reduceAdd, aLoad, ti22, getO, pack, Nat.reduceLeDiff, aIndexA, es22, Int.natCast_nonneg, Int.ofNat_lt, Int.toNat_natCast, List.length_map, Int.le_refl, Int.toNat_zero, Int.toNat_one, Int.reduceLE, tyX, hw1, hk, gM hp, Int.natCast_add, Int.natCast_one, hw, Ty.roomL_step hp (n - 1) e hrm, hw2]
   refine hC12 _ ?_; clear hC12 C12
   simp only [bL]
   refine aops_chunk 4 fun C13 hC13 => ?_
   simp only [bL, ↓bO, bS, bA, bF, ↓reduceIte, Nat.reduceEqDiff, reduceCtorEq, aLoad, ti32, getO, pack, Nat.reduceAdd, Nat.reduceLeDiff, aBin, tyX, hw1, hk, gM hp, Int.natCast_add, Int.natCast_one, hw, Ty.roomL_step hp (n - 1) e hrm, hw2]
   refine hC13 _ ?_; clear hC13 C13
   simp only [bL]
   refine aops_chunk 1 fun C14 hC14 => ?_
   simp only [bL, ↓bO, bS, bA, bF, ↓reduceIte, Nat.reduceEqDiff, reduceCtorEq, aCallV, tyX, hw1, hk, gM hp, Int.natCast_add, Int.natCast_one, hw, Ty.roomL_step hp (n - 1) e hrm, hw2]
   refine APure.call (ih p (List.mem_of_getElem? hp) _ e hrm (by omega) (by omega)) ?_
   try simp only [bS, bA, bF]
   refine hC14 _ ?_; clear hC14 C14
   simp only [bL]
   simp only [↓bO, bS, bA, bF, ↓reduceIte, Nat.reduceEqDiff, reduceCtorEq, tyX, hw1, hk, gM hp, Int.natCast_add, Int.natCast_one, hw, Ty.roomL_step hp (n - 1) e hrm, hw2]
   refine hK11 _ ?_; try clear hK11 K11
   refine AWp_region ?_
   simp only [↓bO, bS, bA, bF, ↓reduceIte, Nat.reduceEqDiff, reduceCtorEq, aBin, tyX, hw1, hk, gM hp, Int.natCast_add, Int.natCast_one, hw, Ty.roomL_step hp (n - 1) e hrm, hw2]
   refine ⟨(s + 1), (by omega), by omega, ?_⟩
   simp only [maskL, setsL, putsO, putO, bA, Nat.reduceEqDiff, ↓reduceIte, hk, gM hp, Int.natCast_add, Int.natCast_one, hw, Ty.roomL_step hp (n - 1) e hrm, hw2]
   exact Weak.mk (by simp only [LeL, Le.refl, Le.any, Le.slNil, and_self, Int.natCast_add, Int.cast_ofNat_Int, Int.natCast_one]) (fun _ _ h => h) rfl rfl
  ·
   refine AWp_exit ?_
   simp only [bF, bA, Nat.reduceEqDiff, ↓reduceIte]
   refine hK6 _ ?_; try clear hK6 K6
   refine AWp_seqK fun K15 hK15 => ?_
   refine AWp_region ?_
   simp only [↓bO, bS, bA, bF, ↓reduceIte, Nat.reduceEqDiff, reduceCtorEq, tyX, hw1]
   refine hK15 _ ?_; try clear hK15 K15
   refine AWp_ret ?_
   try simp only [bF, retQ, aRes, tupOf, bS, bA]
   refine Le.of_eq (congrArg (fun n => AV.v (.int .i64 n)) ?_)
   first | (rw [hd0, Ty.room_zero]; done) | skip
   all_goals (rw [Ty.room_succ]; simp only [decide_eq_false_iff_not] at hb20; rcases Nat.lt_or_ge s T.ps.length with h5 | h5 <;> first | (rw [List.take_of_length_le h5]; done) | (rw [Ty.roomL_stop T.ps s _ _ (by omega)]; done))
theorem big12_pure (T : Ty) : APure Try.prog 69 [.agg T.cells] (.v (.bool T.big)) := by
 refine APure.mkL (.cons T.dataAgg .nil) (.v _) ?_
 refine ACalls_intro Try.func69 (by kernel_rfl) rfl (by rw [Try.ntmps69]; simp) (fun hm => ?_)
 simp only [Try.ntmps69, Try.results69, List.length_cons, List.length_nil, Nat.reduceAdd, Nat.reduceSub, List.replicate_succ, List.replicate_zero, List.cons_append, List.nil_append]
 simp only [Ty.cells_eq T, List.cons_append, List.nil_append]
 refine AWp_seqK fun K1 hK1 => ?_
 refine AWp_region ?_
 simp only [↓bO, bS, bA, bF, ↓reduceIte, Nat.reduceEqDiff, reduceCtorEq]
 refine hK1 _ ?_; try clear hK1 K1
 refine AWp_seqK fun K2 hK2 => ?_
 refine AWp_region ?_
 refine aops_chunk 1 fun C3 hC3 => ?_
 simp only [bL, ↓bO, bS, bA, bF, ↓reduceIte, Nat.reduceEqDiff, reduceCtorEq, aLoad, ti32, getO, pack, Nat.reduceAdd, Nat.reduceLeDiff]
 refine hC3 _ ?_; clear hC3 C3
 simp only [bL]
 refine aops_chunk 1 fun C4 hC4 => ?_
 simp only [bL, ↓bO, bS, bA, bF, ↓reduceIte, Nat.reduceEqDiff, reduceCtorEq, aCallV]
 refine APure.call (by have h9 := room12_pure T 100 30 (by omega) (by omega) (by omega); rw [Ty.cells_eq T] at h9; exact h9) ?_
 try simp only [bS, bA, bF]
 refine hC4 _ ?_; clear hC4 C4
 simp only [bL]
 simp only [↓bO, bS, bA, bF, ↓reduceIte, Nat.reduceEqDiff, reduceCtorEq, aBin]
 refine hK2 _ ?_; try clear hK2 K2
 refine AWp_ret ?_
 try simp only [bF, retQ, aRes, tupOf, bS, bA]
 exact Le.of_eq (congrArg (fun b => AV.v (.bool b)) rfl)
theorem Great12_pure (es : List EqT) : APure Try.prog 35 [.sl 8 (es.map EqT.cells)] (.v (.bool (greatE (es.map EqT.p)))) := by
 refine APure.mkL (.cons (EqT.dataSl es) .nil) (.v _) ?_
 refine ACalls_intro Try.func35 (by kernel_rfl) rfl (by rw [Try.ntmps35]; simp) (fun hm => ?_)
 simp only [Try.ntmps35, Try.results35, List.length_cons, List.length_nil, Nat.reduceAdd, Nat.reduceSub, List.replicate_succ, List.replicate_zero, List.cons_append, List.nil_append]
 refine AWp_seqK fun K1 hK1 => ?_
 refine AWp_region ?_
 simp only [↓bO, bS, bA, bF, ↓reduceIte, Nat.reduceEqDiff, reduceCtorEq, tyX, List.length_map]
 refine hK1 _ ?_; try clear hK1 K1
 refine AWp_seqK fun K2 hK2 => ?_
 refine AWp_region ?_
 simp only [↓bO, bS, bA, bF, ↓reduceIte, Nat.reduceEqDiff, reduceCtorEq, tyX, List.length_map]
 refine hK2 _ ?_; try clear hK2 K2
 refine AWp_seqK fun K3 hK3 => ?_
 refine AWp_seqK fun K4 hK4 => ?_
 refine AWp_region ?_
 simp only [↓bO, bS, bA, bF, ↓reduceIte, Nat.reduceEqDiff, reduceCtorEq, tyX, List.length_map]
 refine hK4 _ ?_; try clear hK4 K4
 refine AWp_block ?_
 refine AWp_loopM (σ := Nat) [true, false, false, true, true, false, false, false, false, false, false, false, false, false, false, false, false, false, false, false, false, false, false, false, false, false, false, false, false, false, false, false, false, false, false, false, false, false, false, false, false, false, false, false, false, false, false, false, false, false, false] (fun s => s ≤ es.length ∧ s ≤ 30 ∧ sumP ((es.map EqT.p).take s) ≤ 200 * s ∧ ∀ (i : Nat) (p : Ty × Ty), i < s → (es.map EqT.p)[i]? = some p → bigE p = false) (fun s => [(3, .v (.int .i64 (sumP ((es.map EqT.p).take s) : Nat))), (4, .v (.int .i64 (s : Int)))]) (fun s => []) (fun s => 30 - s) 0 (⟨by omega, by omega, by simp [sumP], fun i p hi => by omega⟩) ?_ (fun s hs => ?_)
 ·
  simp only [maskL, setsL, putsO, putO, bA, Nat.reduceEqDiff, ↓reduceIte, bL, sumP, Int.natCast_zero, Int.ofNat_zero, Int.cast_ofNat_Int]
  exact Weak.mk (by simp only [LeL, Le.refl, Le.any, Le.slNil, and_self, Int.natCast_add, Int.cast_ofNat_Int, Int.natCast_one]) (fun _ _ h => h) rfl rfl
 simp only [maskL, setsL, putsO, putO, bA, Nat.reduceEqDiff, ↓reduceIte]
 refine AWp_seqK fun K5 hK5 => ?_
 refine AWp_joinM [true, false, false, true, true, false, false, false, false, false, false, false, true, false, false, false, false, false, false, false, false, false, false, false, false, false, false, false, false, false, false, false, false, false, false, false, false, false, false, false, false, false, false, false, false, false, false, false, false, false, false] ([(12, .v (.bool (decide (s < es.length ∧ s < 30))))]) ([]) ?_ ?_
 ·
  refine AWp_region ?_
  refine aops_chunk 1 fun C6 hC6 => ?_
  simp only [bL, ↓bO, bS, bA, bF, ↓reduceIte, Nat.reduceEqDiff, reduceCtorEq, tyX, List.length_map]
  refine hC6 _ ?_; clear hC6 C6
  simp only [bL]
  refine aops_chunk 1 fun C7 hC7 => ?_
  simp only [bL, ↓bO, bS, bA, bF, ↓reduceIte, Nat.reduceEqDiff, reduceCtorEq, tyX, List.length_map]
  refine hC7 _ ?_; clear hC7 C7
  simp only [bL]
  refine aops_chunk 1 fun C8 hC8 => ?_
  simp only [bL, ↓bO, bS, bA, bF, ↓reduceIte, Nat.reduceEqDiff, reduceCtorEq, getO, aLenX, aLen, ln61, List.length_map, tyX]
  refine hC8 _ ?_; clear hC8 C8
  simp only [bL]
  refine aops_chunk 1 fun C9 hC9 => ?_
  simp only [bL, ↓bO, bS, bA, bF, ↓reduceIte, Nat.reduceEqDiff, reduceCtorEq, aBin, tyX, List.length_map]
  refine hC9 _ ?_; clear hC9 C9
  simp only [bL]
  refine aops_chunk 1 fun C10 hC10 => ?_
  simp only [bL, ↓bO, bS, bA, bF, ↓reduceIte, Nat.reduceEqDiff, reduceCtorEq, tyX, List.length_map]
  refine hC10 _ ?_; clear hC10 C10
  simp only [bL]
  refine aops_case 9 rfl (fun hc9 => ?_) (fun hc9 => ?_)
  ·
   simp only [List.set_cons_zero, List.set_cons_succ]
   refine aops_chunk 1 fun C11 hC11 => ?_
   simp only [bL, ↓bO, bS, bA, bF, ↓reduceIte, Nat.reduceEqDiff, reduceCtorEq, undef, tyX, List.length_map]
   refine hC11 _ ?_; clear hC11 C11
   simp only [bL]
   refine aops_chunk 1 fun C12 hC12 => ?_
   simp only [bL, ↓bO, bS, bA, bF, ↓reduceIte, Nat.reduceEqDiff, reduceCtorEq, undef, aBin, tyX, List.length_map]
   refine hC12 _ ?_; clear hC12 C12
   simp only [bL]
   simp only [↓bO, bS, bA, bF, ↓reduceIte, Nat.reduceEqDiff, reduceCtorEq, aBool, tyX, List.length_map]
   try simp only [maskL, setsL, putsO, putO, bA, Nat.reduceEqDiff, ↓reduceIte]
   refine Weak.mk ?_ (fun _ _ h => h) rfl rfl
   simp only [LeL, Le.refl, Le.any, and_self, and_true, true_and]
   all_goals (refine Le.of_eq (congrArg (fun b => AV.v (.bool b)) ?_); rw [Bool.eq_iff_iff]; simp only [decide_eq_true_eq, decide_eq_false_iff_not, Bool.false_eq_true, false_iff, Int.ofNat_lt] at *; omega)
  ·
   simp only [List.set_cons_zero, List.set_cons_succ]
   refine aops_chunk 1 fun C13 hC13 => ?_
   simp only [bL, ↓bO, bS, bA, bF, ↓reduceIte, Nat.reduceEqDiff, reduceCtorEq, undef, tyX, List.length_map]
   refine hC13 _ ?_; clear hC13 C13
   simp only [bL]
   refine aops_chunk 1 fun C14 hC14 => ?_
   simp only [bL, ↓bO, bS, bA, bF, ↓reduceIte, Nat.reduceEqDiff, reduceCtorEq, undef, aBin, tyX, List.length_map]
   refine hC14 _ ?_; clear hC14 C14
   simp only [bL]
   simp only [↓bO, bS, bA, bF, ↓reduceIte, Nat.reduceEqDiff, reduceCtorEq, aBool, tyX, List.length_map]
   try simp only [maskL, setsL, putsO, putO, bA, Nat.reduceEqDiff, ↓reduceIte]
   refine Weak.mk ?_ (fun _ _ h => h) rfl rfl
   simp only [LeL, Le.refl, Le.any, and_self, and_true, true_and]
   all_goals (refine Le.of_eq (congrArg (fun b => AV.v (.bool b)) ?_); rw [Bool.eq_iff_iff]; simp only [decide_eq_true_eq, decide_eq_false_iff_not, Bool.false_eq_true, false_iff, Int.ofNat_lt] at *; omega)
 simp only [maskL, setsL, putsO, putO, bA, Nat.reduceEqDiff, ↓reduceIte]
 refine AWp_cond rfl (fun hb12 => ?_) (fun hb12 => ?_)
 ·
  have hk0 : s < es.length ∧ s < 30 := by simpa using hb12
  have hk : s < es.length := hk0.1
  obtain ⟨e, he⟩ : ∃ e, es[s]? = some e := ⟨_, List.getElem?_eq_getElem hk⟩
  have hep : (es.map EqT.p)[s]? = some e.p := by rw [List.getElem?_map, he]; rfl
  have hss := sumP_step hep
  simp only [EqT.p] at hss
  have hw : IntKind.i64.wrap ((s : Int) + 1) = (s : Int) + 1 := wrap_in (by omega) (by omega)
  refine AWp_skip ?_
  try simp only [bF]
  refine hK5 _ ?_; try clear hK5 K5
  refine AWp_seqK fun K15 hK15 => ?_
  refine AWp_block ?_
  refine AWp_seqK fun K16 hK16 => ?_
  refine AWp_seqK fun K17 hK17 => ?_
  refine AWp_region ?_
  refine aops_chunk 1 fun C18 hC18 => ?_
  simp only [bL, ↓bO, bS, bA, bF, ↓reduceIte, Nat.reduceEqDiff, reduceCtorEq, tyX, List.length_map, hk, gM he, EqT.cells, Ty.refold, Int.natCast_add, Int.natCast_one, hw]
  refine hC18 _ ?_; clear hC18 C18
  simp only [bL]
  refine aops_chunk 1 fun C19 hC19 => ?_
  simp only [bL, ↓bO, bS, bA, bF, ↓reduceIte, Nat.reduceEqDiff, reduceCtorEq, tyX, List.length_map, hk, gM he, EqT.cells, Ty.refold, Int.natCast_add, Int.natCast_one, hw]
  refine hC19 _ ?_; clear hC19 C19
  simp only [bL]
  refine aops_chunk 1 fun C20 hC20 => ?_
  simp only [bL, ↓bO, bS, bA, bF, ↓reduceIte, Nat.reduceEqDiff, reduceCtorEq, getO, aIndexA, es61, Int.natCast_nonneg, Int.ofNat_lt, Int.toNat_natCast, List.length_map, Int.le_refl, Int.toNat_zero, Int.toNat_one, Int.reduceLE, tyX, hk, gM he, EqT.cells, Ty.refold, Int.natCast_add, Int.natCast_one, hw]
  refine hC20 _ ?_; clear hC20 C20
  simp only [bL]
  refine aops_chunk 1 fun C21 hC21 => ?_
  simp only [bL, ↓bO, bS, bA, bF, ↓reduceIte, Nat.reduceEqDiff, reduceCtorEq, aField, fo73_0, Nat.reduceAdd, tyX, List.length_map, hk, gM he, EqT.cells, Ty.refold, Int.natCast_add, Int.natCast_one, hw]
  refine hC21 _ ?_; clear hC21 C21
  simp only [bL]
  refine aops_chunk 1 fun C22 hC22 => ?_
  simp only [bL, ↓bO, bS, bA, bF, ↓reduceIte, Nat.reduceEqDiff, reduceCtorEq, aLoad, ti32, getO, pack, Nat.reduceAdd, Nat.reduceLeDiff, tyX, List.length_map, hk, gM he, EqT.cells, Ty.refold, Int.natCast_add, Int.natCast_one, hw]
  refine hC22 _ ?_; clear hC22 C22
  simp only [bL]
  refine aops_chunk 1 fun C23 hC23 => ?_
  simp only [bL, ↓bO, bS, bA, bF, ↓reduceIte, Nat.reduceEqDiff, reduceCtorEq, aCallV, tyX, List.length_map, hk, gM he, EqT.cells, Ty.refold, Int.natCast_add, Int.natCast_one, hw]
  refine APure.call (big12_pure e.l) ?_
  try simp only [bS, bA, bF]
  refine hC23 _ ?_; clear hC23 C23
  simp only [bL]
  refine aops_chunk 1 fun C24 hC24 => ?_
  simp only [bL, ↓bO, bS, bA, bF, ↓reduceIte, Nat.reduceEqDiff, reduceCtorEq, tyX, List.length_map, hk, gM he, EqT.cells, Ty.refold, Int.natCast_add, Int.natCast_one, hw]
  refine hC24 _ ?_; clear hC24 C24
  simp only [bL]
  refine aops_case 21 rfl (fun hc21 => ?_) (fun hc21 => ?_)
  ·
   simp only [List.set_cons_zero, List.set_cons_succ]
   have hyb : bigE e.p = true := by (have h9 : e.l.big = true := by simpa using hc21); exact (by rw [bigE, show e.p.1.big = true from h9]; rfl)
   refine aops_chunk 1 fun C25 hC25 => ?_
   simp only [bL, ↓bO, bS, bA, bF, ↓reduceIte, Nat.reduceEqDiff, reduceCtorEq, undef, tyX, List.length_map, hk, gM he, EqT.cells, Ty.refold, Int.natCast_add, Int.natCast_one, hw]
   refine hC25 _ ?_; clear hC25 C25
   simp only [bL]
   refine aops_chunk 1 fun C26 hC26 => ?_
   simp only [bL, ↓bO, bS, bA, bF, ↓reduceIte, Nat.reduceEqDiff, reduceCtorEq, undef, tyX, List.length_map, hk, gM he, EqT.cells, Ty.refold, Int.natCast_add, Int.natCast_one, hw]
   refine hC26 _ ?_; clear hC26 C26
   simp only [bL]
   refine aops_chunk 1 fun C27 hC27 => ?_
   simp only [bL, ↓bO, bS, bA, bF, ↓reduceIte, Nat.reduceEqDiff, reduceCtorEq, undef, getO, aIndexA, es61, Int.natCast_nonneg, Int.ofNat_lt, Int.toNat_natCast, List.length_map, Int.le_refl, Int.toNat_zero, Int.toNat_one, Int.reduceLE, tyX, hk, gM he, EqT.cells, Ty.refold, Int.natCast_add, Int.natCast_one, hw]
   refine hC27 _ ?_; clear hC27 C27
   simp only [bL]
   refine aops_chunk 1 fun C28 hC28 => ?_
   simp only [bL, ↓bO, bS, bA, bF, ↓reduceIte, Nat.reduceEqDiff, reduceCtorEq, undef, aField, fo73_1, Nat.reduceAdd, tyX, List.length_map, hk, gM he, EqT.cells, Ty.refold, Int.natCast_add, Int.natCast_one, hw]
   refine hC28 _ ?_; clear hC28 C28
   simp only [bL]
   refine aops_chunk 1 fun C29 hC29 => ?_
   simp only [bL, ↓bO, bS, bA, bF, ↓reduceIte, Nat.reduceEqDiff, reduceCtorEq, undef, aLoad, ti32, getO, pack, Nat.reduceAdd, Nat.reduceLeDiff, tyX, List.length_map, hk, gM he, EqT.cells, Ty.refold, Int.natCast_add, Int.natCast_one, hw]
   refine hC29 _ ?_; clear hC29 C29
   simp only [bL]
   refine aops_chunk 1 fun C30 hC30 => ?_
   simp only [bL, ↓bO, bS, bA, bF, ↓reduceIte, Nat.reduceEqDiff, reduceCtorEq, undef, aCallV, tyX, List.length_map, hk, gM he, EqT.cells, Ty.refold, Int.natCast_add, Int.natCast_one, hw]
   refine hC30 _ ?_; clear hC30 C30
   simp only [bL]
   simp only [↓bO, bS, bA, bF, ↓reduceIte, Nat.reduceEqDiff, reduceCtorEq, aBool, tyX, List.length_map, hk, gM he, EqT.cells, Ty.refold, Int.natCast_add, Int.natCast_one, hw]
   refine hK17 _ ?_; try clear hK17 K17
   refine AWp_cond (b := true) (by first | exact rfl | exact congrArg (fun b => AV.v (.bool b)) hb28) (fun _ => ?_) (fun h => (by cases h))
   refine AWp_seqK fun K31 hK31 => ?_
   refine AWp_region ?_
   simp only [↓bO, bS, bA, bF, ↓reduceIte, Nat.reduceEqDiff, reduceCtorEq, tyX, List.length_map, hk, gM he, EqT.cells, Ty.refold, Int.natCast_add, Int.natCast_one, hw]
   refine hK31 _ ?_; try clear hK31 K31
   refine AWp_ret ?_
   try simp only [bF, retQ, aRes, tupOf, bS, bA]
   refine Le.of_eq (congrArg (fun b => AV.v (.bool b)) ?_)
   first | (rw [greatE_true hep (by omega) hyb]; done) | skip
   all_goals (rw [hg1, Bool.eq_iff_iff]; simp only [Bool.or_eq_true, decide_eq_true_eq, decide_eq_false_iff_not, true_iff, Bool.false_eq_true, false_iff] at *; omega)
  ·
   simp only [List.set_cons_zero, List.set_cons_succ]
   have hb1 : e.l.big = false := by simpa using hc21
   refine aops_chunk 1 fun C32 hC32 => ?_
   simp only [bL, ↓bO, bS, bA, bF, ↓reduceIte, Nat.reduceEqDiff, reduceCtorEq, undef, tyX, List.length_map, hk, gM he, EqT.cells, Ty.refold, Int.natCast_add, Int.natCast_one, hw]
   refine hC32 _ ?_; clear hC32 C32
   simp only [bL]
   refine aops_chunk 1 fun C33 hC33 => ?_
   simp only [bL, ↓bO, bS, bA, bF, ↓reduceIte, Nat.reduceEqDiff, reduceCtorEq, undef, tyX, List.length_map, hk, gM he, EqT.cells, Ty.refold, Int.natCast_add, Int.natCast_one, hw]
   refine hC33 _ ?_; clear hC33 C33
   simp only [bL]
   refine aops_chunk 1 fun C34 hC34 => ?_
   simp only [bL, ↓bO, bS, bA, bF, ↓reduceIte, Nat.reduceEqDiff, reduceCtorEq, undef, getO, aIndexA, es61, Int.natCast_nonneg, Int.ofNat_lt, Int.toNat_natCast, List.length_map, Int.le_refl, Int.toNat_zero, Int.toNat_one, Int.reduceLE, tyX, hk, gM he, EqT.cells, Ty.refold, Int.natCast_add, Int.natCast_one, hw]
   refine hC34 _ ?_; clear hC34 C34
   simp only [bL]
   refine aops_chunk 1 fun C35 hC35 => ?_
   simp only [bL, ↓bO, bS, bA, bF, ↓reduceIte, Nat.reduceEqDiff, reduceCtorEq, undef, aField, fo73_1, Nat.reduceAdd, tyX, List.length_map, hk, gM he, EqT.cells, Ty.refold, Int.natCast_add, Int.natCast_one, hw]
   refine hC35 _ ?_; clear hC35 C35
   simp only [bL]
   refine aops_chunk 1 fun C36 hC36 => ?_
   simp only [bL, ↓bO, bS, bA, bF, ↓reduceIte, Nat.reduceEqDiff, reduceCtorEq, undef, aLoad, ti32, getO, pack, Nat.reduceAdd, Nat.reduceLeDiff, tyX, List.length_map, hk, gM he, EqT.cells, Ty.refold, Int.natCast_add, Int.natCast_one, hw]
   refine hC36 _ ?_; clear hC36 C36
   simp only [bL]
   refine aops_chunk 1 fun C37 hC37 => ?_
   simp only [bL, ↓bO, bS, bA, bF, ↓reduceIte, Nat.reduceEqDiff, reduceCtorEq, undef, aCallV, tyX, List.length_map, hk, gM he, EqT.cells, Ty.refold, Int.natCast_add, Int.natCast_one, hw]
   refine APure.call (big12_pure e.r) ?_
   try simp only [bS, bA, bF]
   refine hC37 _ ?_; clear hC37 C37
   simp only [bL]
   simp only [↓bO, bS, bA, bF, ↓reduceIte, Nat.reduceEqDiff, reduceCtorEq, aBool, tyX, List.length_map, hk, gM he, EqT.cells, Ty.refold, Int.natCast_add, Int.natCast_one, hw]
   refine hK17 _ ?_; try clear hK17 K17
   refine AWp_cond rfl (fun hb28 => ?_) (fun hb28 => ?_)
   ·
    have hyb : bigE e.p = true := by (have h9 : e.r.big = true := by simpa using hb28); exact (by rw [bigE, show e.p.2.big = true from h9, Bool.or_true])
    refine AWp_seqK fun K38 hK38 => ?_
    refine AWp_region ?_
    simp only [↓bO, bS, bA, bF, ↓reduceIte, Nat.reduceEqDiff, reduceCtorEq, tyX, List.length_map, hk, gM he, EqT.cells, Ty.refold, Int.natCast_add, Int.natCast_one, hw]
    refine hK38 _ ?_; try clear hK38 K38
    refine AWp_ret ?_
    try simp only [bF, retQ, aRes, tupOf, bS, bA]
    refine Le.of_eq (congrArg (fun b => AV.v (.bool b)) ?_)
    first | (rw [greatE_true hep (by omega) hyb]; done) | skip
    all_goals (rw [hg1, Bool.eq_iff_iff]; simp only [Bool.or_eq_true, decide_eq_true_eq, decide_eq_false_iff_not, true_iff, Bool.false_eq_true, false_iff] at *; omega)
   ·
    have hb2 : e.r.big = false := by simpa using hb28
    have hnb : bigE e.p = false := by rw [bigE, show e.p.1.big = false from hb1, show e.p.2.big = false from hb2]; rfl
    have hpc1 := Ty.big_cnt hb1
    have hpc2 := Ty.big_cnt hb2
    have hsz1 := Ty.sizeW_cnt e.l (by omega)
    have hsz2 := Ty.sizeW_cnt e.r (by omega)
    have hw2 : IntKind.i64.wrap ((sumP ((es.map EqT.p).take s) : Int) + e.l.sizeW) = (sumP ((es.map EqT.p).take s) : Int) + e.l.cnt := by rw [hsz1, wrap_in (by omega) (by omega)]
    have hw3 : IntKind.i64.wrap ((sumP ((es.map EqT.p).take s) : Int) + e.l.cnt + e.r.sizeW) = (sumP ((es.map EqT.p).take (s + 1)) : Int) := by rw [hsz2, wrap_in (by omega) (by omega)]; omega
    refine AWp_skip ?_
    try simp only [bF]
    refine hK16 _ ?_; try clear hK16 K16
    refine AWp_drawK 15 mixed (by kernel_rfl) fun K39 hK39 => ?_
    simp only [bL]
    refine dRun_chunk 1 fun C40 hC40 => ?_
    simp only [bL, ↓dRun, ↓dOp, ↓bO, bS, bA, bF, ↓reduceIte, Nat.reduceEqDiff, reduceCtorEq, tyX, List.length_map, hk, gM he, EqT.cells, Ty.refold, Int.natCast_add, Int.natCast_one, hw, hw2, hw3]
    refine hC40 _ ?_; clear hC40 C40
    simp only [bL]
    refine dRun_chunk 1 fun C41 hC41 => ?_
    simp only [bL, ↓dRun, ↓dOp, ↓bO, bS, bA, bF, ↓reduceIte, Nat.reduceEqDiff, reduceCtorEq, tyX, List.length_map, hk, gM he, EqT.cells, Ty.refold, Int.natCast_add, Int.natCast_one, hw, hw2, hw3]
    refine hC41 _ ?_; clear hC41 C41
    simp only [bL]
    refine dRun_chunk 1 fun C42 hC42 => ?_
    simp only [bL, ↓dRun, ↓dOp, ↓bO, bS, bA, bF, ↓reduceIte, Nat.reduceEqDiff, reduceCtorEq, tyX, List.length_map, hk, gM he, EqT.cells, Ty.refold, Int.natCast_add, Int.natCast_one, hw, hw2, hw3]
    refine hC42 _ ?_; clear hC42 C42
    simp only [bL]
    refine dRun_chunk 1 fun C43 hC43 => ?_
    simp only [bL, ↓dRun, ↓dOp, ↓bO, bS, bA, bF, ↓reduceIte, Nat.reduceEqDiff, reduceCtorEq, getO, aIndexA, es61, Int.natCast_nonneg, Int.ofNat_lt, Int.toNat_natCast, List.length_map, Int.le_refl, Int.toNat_zero, Int.toNat_one, Int.reduceLE, tyX, hk, gM he, EqT.cells, Ty.refold, Int.natCast_add, Int.natCast_one, hw, hw2, hw3]
    refine hC43 _ ?_; clear hC43 C43
    simp only [bL]
    refine dRun_chunk 1 fun C44 hC44 => ?_
    simp only [bL, ↓dRun, ↓dOp, ↓bO, bS, bA, bF, ↓reduceIte, Nat.reduceEqDiff, reduceCtorEq, aField, fo73_0, Nat.reduceAdd, tyX, List.length_map, hk, gM he, EqT.cells, Ty.refold, Int.natCast_add, Int.natCast_one, hw, hw2, hw3]
    refine hC44 _ ?_; clear hC44 C44
    simp only [bL]
    refine dRun_chunk 1 fun C45 hC45 => ?_
    simp only [bL, ↓dRun, ↓dOp, ↓bO, bS, bA, bF, ↓reduceIte, Nat.reduceEqDiff, reduceCtorEq, aLoad, ti32, getO, pack, Nat.reduceAdd, Nat.reduceLeDiff, tyX, List.length_map, hk, gM he, EqT.cells, Ty.refold, Int.natCast_add, Int.natCast_one, hw, hw2, hw3]
    refine hC45 _ ?_; clear hC45 C45
    simp only [bL]
    refine dRun_chunk 1 fun C46 hC46 => ?_
    simp only [bL, ↓dRun, ↓dOp, ↓bO, bS, bA, bF, ↓reduceIte, Nat.reduceEqDiff, reduceCtorEq, aCallV, tyX, List.length_map, hk, gM he, EqT.cells, Ty.refold, Int.natCast_add, Int.natCast_one, hw, hw2, hw3]
    refine ⟨_, Size_pure e.l, ?_⟩
    try simp only [bS, bA, bF]
    refine hC46 _ ?_; clear hC46 C46
    simp only [bL]
    refine dRun_chunk 1 fun C47 hC47 => ?_
    simp only [bL, ↓dRun, ↓dOp, ↓bO, bS, bA, bF, ↓reduceIte, Nat.reduceEqDiff, reduceCtorEq, aBin, tyX, List.length_map, hk, gM he, EqT.cells, Ty.refold, Int.natCast_add, Int.natCast_one, hw, hw2, hw3]
    refine hC47 _ ?_; clear hC47 C47
    simp only [bL]
    refine dRun_chunk 1 fun C48 hC48 => ?_
    simp only [bL, ↓dRun, ↓dOp, ↓bO, bS, bA, bF, ↓reduceIte, Nat.reduceEqDiff, reduceCtorEq, tyX, List.length_map, hk, gM he, EqT.cells, Ty.refold, Int.natCast_add, Int.natCast_one, hw, hw2, hw3]
    refine hC48 _ ?_; clear hC48 C48
    simp only [bL]
    refine dRun_chunk 1 fun C49 hC49 => ?_
    simp only [bL, ↓dRun, ↓dOp, ↓bO, bS, bA, bF, ↓reduceIte, Nat.reduceEqDiff, reduceCtorEq, tyX, List.length_map, hk, gM he, EqT.cells, Ty.refold, Int.natCast_add, Int.natCast_one, hw, hw2, hw3]
    refine hC49 _ ?_; clear hC49 C49
    simp only [bL]
    refine dRun_chunk 1 fun C50 hC50 => ?_
    simp only [bL, ↓dRun, ↓dOp, ↓bO, bS, bA, bF, ↓reduceIte, Nat.reduceEqDiff, reduceCtorEq, getO, aIndexA, es61, Int.natCast_nonneg, Int.ofNat_lt, Int.toNat_natCast, List.length_map, Int.le_refl, Int.toNat_zero, Int.toNat_one, Int.reduceLE, tyX, hk, gM he, EqT.cells, Ty.refold, Int.natCast_add, Int.natCast_one, hw, hw2, hw3]
    refine hC50 _ ?_; clear hC50 C50
    simp only [bL]
    refine dRun_chunk 1 fun C51 hC51 => ?_
    simp only [bL, ↓dRun, ↓dOp, ↓bO, bS, bA, bF, ↓reduceIte, Nat.reduceEqDiff, reduceCtorEq, aField, fo73_1, Nat.reduceAdd, tyX, List.length_map, hk, gM he, EqT.cells, Ty.refold, Int.natCast_add, Int.natCast_one, hw, hw2, hw3]
    refine hC51 _ ?_; clear hC51 C51
    simp only [bL]
    refine dRun_chunk 1 fun C52 hC52 => ?_
    simp only [bL, ↓dRun, ↓dOp, ↓bO, bS, bA, bF, ↓reduceIte, Nat.reduceEqDiff, reduceCtorEq, aLoad, ti32, getO, pack, Nat.reduceAdd, Nat.reduceLeDiff, tyX, List.length_map, hk, gM he, EqT.cells, Ty.refold, Int.natCast_add, Int.natCast_one, hw, hw2, hw3]
    refine hC52 _ ?_; clear hC52 C52
    simp only [bL]
    refine dRun_chunk 1 fun C53 hC53 => ?_
    simp only [bL, ↓dRun, ↓dOp, ↓bO, bS, bA, bF, ↓reduceIte, Nat.reduceEqDiff, reduceCtorEq, aCallV, tyX, List.length_map, hk, gM he, EqT.cells, Ty.refold, Int.natCast_add, Int.natCast_one, hw, hw2, hw3]
    refine ⟨_, Size_pure e.r, ?_⟩
    try simp only [bS, bA, bF]
    refine hC53 _ ?_; clear hC53 C53
    simp only [bL]
    simp only [↓dRun, ↓dOp, bL, ↓bO, bS, bA, bF, ↓reduceIte, Nat.reduceEqDiff, reduceCtorEq, aBin, tyX, List.length_map, hk, gM he, EqT.cells, Ty.refold, Int.natCast_add, Int.natCast_one, hw, hw2, hw3]
    refine hK39 _ ?_; try clear hK39 K39
    simp only [bL]
    simp only [↓bO, bS, bA, bF, ↓reduceIte, Nat.reduceEqDiff, reduceCtorEq, tyX, List.length_map, hk, gM he, EqT.cells, Ty.refold, Int.natCast_add, Int.natCast_one, hw, hw2, hw3]
    refine hK15 _ ?_; try clear hK15 K15
    refine AWp_region ?_
    refine aops_chunk 1 fun C54 hC54 => ?_
    simp only [bL, ↓bO, bS, bA, bF, ↓reduceIte, Nat.reduceEqDiff, reduceCtorEq, tyX, List.length_map, hk, gM he, EqT.cells, Ty.refold, Int.natCast_add, Int.natCast_one, hw, hw2, hw3]
    refine hC54 _ ?_; clear hC54 C54
    simp only [bL]
    refine aops_chunk 1 fun C55 hC55 => ?_
    simp only [bL, ↓bO, bS, bA, bF, ↓reduceIte, Nat.reduceEqDiff, reduceCtorEq, aBin, tyX, List.length_map, hk, gM he, EqT.cells, Ty.refold, Int.natCast_add, Int.natCast_one, hw, hw2, hw3]
    refine hC55 _ ?_; clear hC55 C55
    simp only [bL]
    simp only [↓bO, bS, bA, bF, ↓reduceIte, Nat.reduceEqDiff, reduceCtorEq, tyX, List.length_map, hk, gM he, EqT.cells, Ty.refold, Int.natCast_add, Int.natCast_one, hw, hw2, hw3]
    refine ⟨(s + 1), ⟨by omega, by omega, by omega, fun i p' hi h1 => (by rcases Nat.lt_or_ge i s with h3 | h3 <;> first | exact hs.2.2.2 i p' h3 h1 | (obtain rfl : i = s := (by omega); rw [hep] at h1; cases h1; exact hnb))⟩, by omega, ?_⟩
    simp only [maskL, setsL, putsO, putO, bA, Nat.reduceEqDiff, ↓reduceIte, hk, gM he, EqT.cells, Ty.refold, Int.natCast_add, Int.natCast_one, hw, hw2, hw3]
    exact Weak.mk (by simp only [LeL, Le.refl, Le.any, Le.slNil, and_self, Int.natCast_add, Int.cast_ofNat_Int, Int.natCast_one]) (fun _ _ h => h) rfl rfl
 ·
  have hk0 : ¬ (s < es.length ∧ s < 30) := by simpa using hb12
  have hg1 := greatE_end (l := (es.map EqT.p)) (by rw [List.length_map]; exact hk0) (by rw [List.length_map]; exact hs.1) hs.2.1 hs.2.2.2
  rw [List.length_map] at hg1
  refine AWp_exit ?_
  simp only [bF, bA, Nat.reduceEqDiff, ↓reduceIte]
  refine hK3 _ ?_; try clear hK3 K3
  refine AWp_seqK fun K56 hK56 => ?_
  refine AWp_region ?_
  refine aops_chunk 1 fun C57 hC57 => ?_
  simp only [bL, ↓bO, bS, bA, bF, ↓reduceIte, Nat.reduceEqDiff, reduceCtorEq, tyX, List.length_map]
  refine hC57 _ ?_; clear hC57 C57
  simp only [bL]
  refine aops_chunk 1 fun C58 hC58 => ?_
  simp only [bL, ↓bO, bS, bA, bF, ↓reduceIte, Nat.reduceEqDiff, reduceCtorEq, getO, aLenX, aLen, ln61, List.length_map, tyX]
  refine hC58 _ ?_; clear hC58 C58
  simp only [bL]
  refine aops_chunk 1 fun C59 hC59 => ?_
  simp only [bL, ↓bO, bS, bA, bF, ↓reduceIte, Nat.reduceEqDiff, reduceCtorEq, aBin, tyX, List.length_map]
  refine hC59 _ ?_; clear hC59 C59
  simp only [bL]
  refine aops_chunk 1 fun C60 hC60 => ?_
  simp only [bL, ↓bO, bS, bA, bF, ↓reduceIte, Nat.reduceEqDiff, reduceCtorEq, tyX, List.length_map]
  refine hC60 _ ?_; clear hC60 C60
  simp only [bL]
  refine aops_case 47 rfl (fun hc47 => ?_) (fun hc47 => ?_)
  ·
   simp only [List.set_cons_zero, List.set_cons_succ]
   refine aops_chunk 1 fun C61 hC61 => ?_
   simp only [bL, ↓bO, bS, bA, bF, ↓reduceIte, Nat.reduceEqDiff, reduceCtorEq, undef, tyX, List.length_map]
   refine hC61 _ ?_; clear hC61 C61
   simp only [bL]
   refine aops_chunk 1 fun C62 hC62 => ?_
   simp only [bL, ↓bO, bS, bA, bF, ↓reduceIte, Nat.reduceEqDiff, reduceCtorEq, undef, aBin, tyX, List.length_map]
   refine hC62 _ ?_; clear hC62 C62
   simp only [bL]
   refine aops_chunk 1 fun C63 hC63 => ?_
   simp only [bL, ↓bO, bS, bA, bF, ↓reduceIte, Nat.reduceEqDiff, reduceCtorEq, aBool, tyX, List.length_map]
   refine hC63 _ ?_; clear hC63 C63
   simp only [bL]
   simp only [↓bO, bS, bA, bF, ↓reduceIte, Nat.reduceEqDiff, reduceCtorEq, tyX, List.length_map]
   refine hK56 _ ?_; try clear hK56 K56
   refine AWp_ret ?_
   try simp only [bF, retQ, aRes, tupOf, bS, bA]
   refine Le.of_eq (congrArg (fun b => AV.v (.bool b)) ?_)
   first | (rw [greatE_true hep (by omega) hyb]; done) | skip
   all_goals (rw [hg1, Bool.eq_iff_iff]; simp only [Bool.or_eq_true, decide_eq_true_eq, decide_eq_false_iff_not, true_iff, Bool.false_eq_true, false_iff] at *; omega)
  ·
   simp only [List.set_cons_zero, List.set_cons_succ]
   refine aops_chunk 1 fun C64 hC64 => ?_
   simp only [bL, ↓bO, bS, bA, bF, ↓reduceIte, Nat.reduceEqDiff, reduceCtorEq, undef, tyX, List.length_map]
   refine hC64 _ ?_; clear hC64 C64
   simp only [bL]
   refine aops_chunk 1 fun C65 hC65 => ?_
   simp only [bL, ↓bO, bS, bA, bF, ↓reduceIte, Nat.reduceEqDiff, reduceCtorEq, undef, aBin, tyX, List.length_map]
   refine hC65 _ ?_; clear hC65 C65
   simp only [bL]
   refine aops_chunk 1 fun C66 hC66 => ?_
   simp only [bL, ↓bO, bS, bA, bF, ↓reduceIte, Nat.reduceEqDiff, reduceCtorEq, aBool, tyX, List.length_map]
   refine hC66 _ ?_; clear hC66 C66
   simp only [bL]
   simp only [↓bO, bS, bA, bF, ↓reduceIte, Nat.reduceEqDiff, reduceCtorEq, tyX, List.length_map]
   refine hK56 _ ?_; try clear hK56 K56
   refine AWp_ret ?_
   try simp only [bF, retQ, aRes, tupOf, bS, bA]
   refine Le.of_eq (congrArg (fun b => AV.v (.bool b)) ?_)
   first | (rw [greatE_true hep (by omega) hyb]; done) | skip
   all_goals (rw [hg1, Bool.eq_iff_iff]; simp only [Bool.or_eq_true, decide_eq_true_eq, decide_eq_false_iff_not, true_iff, Bool.false_eq_true, false_iff] at *; omega)
end Go.Proofs.Ytohdoloalolpfaa
namespace Go.Proofs.Ytohdoloalolpfaa
open Go Go.RowKit
set_option maxRecDepth 100000
set_option maxHeartbeats 1000000
set_option linter.unusedSimpArgs false
set_option linter.unusedVariables false
attribute [local irreducible] aops dRun
theorem vGet (V : List (Int × Int)) (n : Int) : ((vfind V n).map fun i => AV.v (.int .i64 i)).getD (.v (.int .i64 0)) = .v (.int .i64 ((vfind V n).getD 0)) := by cases vfind V n <;> rfl
theorem vIs (V : List (Int × Int)) (n : Int) : ((vfind V n).map fun i => AV.v (.int .i64 i)).isSome = (vfind V n).isSome := by cases vfind V n <;> rfl
def nodeG (S : CS) (n : Int) : Int × Bool := if S.clash = true then (0, false) else ((vfind S.G.V n).getD 0, (vfind S.G.V n).isSome)
theorem nodeG_some {S : CS} {n : Int} (h : (nodeG S n).2 = true) : S.clash = false ∧ ∃ k, vfind S.G.V n = some k ∧ (nodeG S n).1 = k := by
  unfold nodeG at h ⊢
  split at h
  · cases h
  · rename_i hc
    rw [if_neg hc]
    refine ⟨by simpa using hc, ?_⟩
    cases hv : vfind S.G.V n with
    | none => rw [hv] at h; cases h
    | some k => exact ⟨k, rfl, rfl⟩
theorem nodeG_none {S : CS} {n : Int} (h : (nodeG S n).2 = false) : S.clash = true ∨ vfind S.G.V n = none := by
  unfold nodeG at h
  split at h
  · exact .inl (by assumption)
  · cases hv : vfind S.G.V n with
    | none => exact .inr rfl
    | some k => rw [hv] at h; cases h
theorem One.of_rt {up : List Nat} {a b r q : Nat} (ha : Rt up a r) (hb : Rt up b q) : One up a b ↔ r = q := by
  constructor
  · rintro (rfl | ⟨t, h1, h2⟩)
    · exact Rt.det ha hb
    · cases Rt.det ha h1
      exact (Rt.det hb h2).symm ▸ rfl
  · rintro rfl
    exact .inr ⟨r, ha, hb⟩
theorem GVar_calls (G : GS) (n : Int) : GCalls 26 [.ptr 0 0, .v (.int .i64 n)] (G.N) (G.V) (.tup [.v (.int .i64 ((vfind G.V n).getD 0)), .v (.bool (vfind G.V n).isSome)]) (G.N) (G.V) := by
 refine ACalls.clean (C := fun r os => r = _ ∧ os = _) ?_
 refine ACalls_intro Try.func26 (by kernel_rfl) rfl (by rw [Try.ntmps26]; simp) (fun hm => ?_)
 simp only [Try.ntmps26, Try.results26, List.length_cons, List.length_nil, Nat.reduceAdd, Nat.reduceSub, List.replicate_succ, List.replicate_zero, List.cons_append, List.nil_append]
 simp only [gObs, enumO, Nat.reduceAdd]
 refine AWp_seqK fun K1 hK1 => ?_
 refine AWp_region ?_
 refine aops_chunk 1 fun C2 hC2 => ?_
 simp only [bL, ↓bO, bS, bA, bF, ↓reduceIte, Nat.reduceEqDiff, reduceCtorEq, aFind_vC, vGet, vIs]
 refine hC2 _ ?_; clear hC2 C2
 simp only [bL]
 simp only [↓bO, bS, bA, bF, ↓reduceIte, Nat.reduceEqDiff, reduceCtorEq, aFind_vC, vGet, vIs]
 refine hK1 _ ?_; try clear hK1 K1
 refine AWp_seqK fun K3 hK3 => ?_
 refine AWp_seqK fun K4 hK4 => ?_
 refine AWp_region ?_
 refine aops_chunk 1 fun C5 hC5 => ?_
 simp only [bL, ↓bO, bS, bA, bF, ↓reduceIte, Nat.reduceEqDiff, reduceCtorEq, aFind_vC, vGet, vIs]
 refine hC5 _ ?_; clear hC5 C5
 simp only [bL]
 simp only [↓bO, bS, bA, bF, ↓reduceIte, Nat.reduceEqDiff, reduceCtorEq, aBin, pt25, aFind_vC, vGet, vIs]
 refine hK4 _ ?_; try clear hK4 K4
 refine AWp_cond rfl (fun hb9 => ?_) (fun hb9 => ?_)
 ·
  cases hb9
 ·
  refine AWp_skip ?_
  try simp only [bF]
  refine hK3 _ ?_; try clear hK3 K3
  refine AWp_seqK fun K6 hK6 => ?_
  refine AWp_region ?_
  refine aops_chunk 1 fun C7 hC7 => ?_
  simp only [bL, ↓bO, bS, bA, bF, ↓reduceIte, Nat.reduceEqDiff, reduceCtorEq, aFind_vC, vGet, vIs]
  refine hC7 _ ?_; clear hC7 C7
  simp only [bL]
  refine aops_chunk 1 fun C8 hC8 => ?_
  simp only [bL, ↓bO, bS, bA, bF, ↓reduceIte, Nat.reduceEqDiff, reduceCtorEq, aFind_vC, vGet, vIs]
  refine hC8 _ ?_; clear hC8 C8
  simp only [bL]
  refine aops_chunk 1 fun C9 hC9 => ?_
  simp only [bL, ↓bO, bS, bA, bF, ↓reduceIte, Nat.reduceEqDiff, reduceCtorEq, aField, fo91_1, Nat.reduceAdd, aFind_vC, vGet, vIs]
  refine hC9 _ ?_; clear hC9 C9
  simp only [bL]
  refine aops_chunk 1 fun C10 hC10 => ?_
  simp only [bL, ↓bO, bS, bA, bF, ↓reduceIte, Nat.reduceEqDiff, reduceCtorEq, aLoad, ti89, getO, pack, Nat.reduceAdd, Nat.reduceLeDiff, aFind_vC, vGet, vIs]
  refine hC10 _ ?_; clear hC10 C10
  simp only [bL]
  refine aops_chunk 1 fun C11 hC11 => ?_
  simp only [bL, ↓bO, bS, bA, bF, ↓reduceIte, Nat.reduceEqDiff, reduceCtorEq, aFind_vC, vGet, vIs]
  refine hC11 _ ?_; clear hC11 C11
  simp only [bL]
  refine aops_chunk 1 fun C12 hC12 => ?_
  simp only [bL, ↓bO, bS, bA, bF, ↓reduceIte, Nat.reduceEqDiff, reduceCtorEq, aLookup, mz89, getO, valAV, aFind_vC, vGet, vIs]
  refine hC12 _ ?_; clear hC12 C12
  simp only [bL]
  refine aops_chunk 1 fun C13 hC13 => ?_
  simp only [bL, ↓bO, bS, bA, bF, ↓reduceIte, Nat.reduceEqDiff, reduceCtorEq, aFind_vC, vGet, vIs]
  refine hC13 _ ?_; clear hC13 C13
  simp only [bL]
  refine aops_chunk 1 fun C14 hC14 => ?_
  simp only [bL, ↓bO, bS, bA, bF, ↓reduceIte, Nat.reduceEqDiff, reduceCtorEq, aExtract, Nat.reduceAdd, Nat.reduceLT, Nat.zero_lt_succ, aFind_vC, vGet, vIs]
  refine hC14 _ ?_; clear hC14 C14
  simp only [bL]
  refine aops_chunk 1 fun C15 hC15 => ?_
  simp only [bL, ↓bO, bS, bA, bF, ↓reduceIte, Nat.reduceEqDiff, reduceCtorEq, aExtract, Nat.reduceAdd, Nat.reduceLT, Nat.zero_lt_succ, aFind_vC, vGet, vIs]
  refine hC15 _ ?_; clear hC15 C15
  simp only [bL]
  refine aops_chunk 1 fun C16 hC16 => ?_
  simp only [bL, ↓bO, bS, bA, bF, ↓reduceIte, Nat.reduceEqDiff, reduceCtorEq, aFind_vC, vGet, vIs]
  refine hC16 _ ?_; clear hC16 C16
  simp only [bL]
  simp only [↓bO, bS, bA, bF, ↓reduceIte, Nat.reduceEqDiff, reduceCtorEq, aFind_vC, vGet, vIs]
  refine hK6 _ ?_; try clear hK6 K6
  refine AWp_seqK fun K17 hK17 => ?_
  refine AWp_region ?_
  refine aops_chunk 1 fun C18 hC18 => ?_
  simp only [bL, ↓bO, bS, bA, bF, ↓reduceIte, Nat.reduceEqDiff, reduceCtorEq, aFind_vC, vGet, vIs]
  refine hC18 _ ?_; clear hC18 C18
  simp only [bL]
  refine aops_chunk 1 fun C19 hC19 => ?_
  simp only [bL, ↓bO, bS, bA, bF, ↓reduceIte, Nat.reduceEqDiff, reduceCtorEq, aFind_vC, vGet, vIs]
  refine hC19 _ ?_; clear hC19 C19
  simp only [bL]
  refine aops_chunk 1 fun C20 hC20 => ?_
  simp only [bL, ↓bO, bS, bA, bF, ↓reduceIte, Nat.reduceEqDiff, reduceCtorEq, aFind_vC, vGet, vIs]
  refine hC20 _ ?_; clear hC20 C20
  simp only [bL]
  simp only [↓bO, bS, bA, bF, ↓reduceIte, Nat.reduceEqDiff, reduceCtorEq, aFind_vC, vGet, vIs]
  refine hK17 _ ?_; try clear hK17 K17
  refine AWp_ret ?_
  try simp only [bF, retQ, aRes, tupOf, bS, bA]
  refine ⟨_, enumO 0 (gObs (G.N) (G.V)), ⟨rfl, rfl⟩, .tup ⟨.v _ _, .v _ _, trivial⟩, gUnd (by omega) _ _, ?_, ?_, by omega⟩
  ·
   refine Le.of_eq ?_
   rfl
  · first | (refine ⟨0, ?_, rfl⟩; first | rfl | (simp only [gObs, enumO, List.drop_succ_cons, List.drop_zero, List.map_append, List.map_cons, List.map_nil, List.length_append, List.length_cons, List.length_nil, GNode.cells, List.take_length, Nat.reduceAdd, Nat.zero_add]; done))
theorem node_c (S : CS) (n : Int) : CCalls (σ := Int × Bool) 76 [.ptr 0 0, .v (.int .i64 n)] (S) (fun s => s.1 = S ∧ s.2 = nodeG S n) (fun s => .tup [.v (.int .i64 s.1), .v (.bool s.2)]) := by
 refine ACalls.clean (C := fun r os => ∃ s : CS × Int × Bool, (s.1 = S ∧ s.2 = nodeG S n) ∧ r = (fun s : Int × Bool => .tup [.v (.int .i64 s.1), .v (.bool s.2)]) s.2 ∧ os = enumO 0 (cObs s.1)) ?_
 refine ACalls_intro Try.func76 (by kernel_rfl) rfl (by rw [Try.ntmps76]; simp) (fun hm => ?_)
 simp only [Try.ntmps76, Try.results76, List.length_cons, List.length_nil, Nat.reduceAdd, Nat.reduceSub, List.replicate_succ, List.replicate_zero, List.cons_append, List.nil_append]
 simp only [cObs, enumO, Nat.reduceAdd]
 refine AWp_seqK fun K1 hK1 => ?_
 refine AWp_region ?_
 simp only [↓bO, bS, bA, bF, ↓reduceIte, Nat.reduceEqDiff, reduceCtorEq, List.length_map, bL, Nat.reduceAdd, Nat.reduceLeDiff, Int.toNat_natCast, Int.natCast_nonneg]
 refine hK1 _ ?_; try clear hK1 K1
 refine AWp_seqK fun K2 hK2 => ?_
 refine AWp_seqK fun K3 hK3 => ?_
 refine AWp_region ?_
 refine aops_chunk 1 fun C4 hC4 => ?_
 simp only [bL, ↓bO, bS, bA, bF, ↓reduceIte, Nat.reduceEqDiff, reduceCtorEq, List.length_map, Nat.reduceAdd, Nat.reduceLeDiff, Int.toNat_natCast, Int.natCast_nonneg]
 refine hC4 _ ?_; clear hC4 C4
 simp only [bL]
 refine aops_chunk 1 fun C5 hC5 => ?_
 simp only [bL, ↓bO, bS, bA, bF, ↓reduceIte, Nat.reduceEqDiff, reduceCtorEq, aCallV, List.length_map, Nat.reduceAdd, Nat.reduceLeDiff, Int.toNat_natCast, Int.natCast_nonneg]
 refine CCalls.at (Err_c S) (.nil) (fun _ => .v _) (i0 := 0) (i1 := 1) (i2 := 2) (i3 := 3) (i4 := 4) (i5 := 5) (i6 := 6) (i7 := 7) (by decide) (by simp) ⟨rfl, rfl, rfl, rfl, rfl, rfl, rfl, rfl, trivial⟩ (fun Z9 u9 hZ9 => ?_)
 try dsimp only at hZ9
 simp only [cObsAt, List.zip_cons_cons, List.zip_nil_left, List.zip_nil_right, putsO, putO, Nat.reduceEqDiff, ↓reduceIte]
 obtain rfl : S = Z9 := hZ9.symm
 try simp only [bS, bA, bF]
 refine hC5 _ ?_; clear hC5 C5
 simp only [bL]
 simp only [↓bO, bS, bA, bF, ↓reduceIte, Nat.reduceEqDiff, reduceCtorEq, aBin, List.length_map, bL, Nat.reduceAdd, Nat.reduceLeDiff, Int.toNat_natCast, Int.natCast_nonneg]
 refine hK3 _ ?_; try clear hK3 K3
 refine AWp_cond rfl (fun hb8 => ?_) (fun hb8 => ?_)
 ·
  have hcs : S.clash = true := by (have h9 := hb8; cases hc : S.clash <;> simp [hc] at h9 ⊢)
  refine AWp_seqK fun K6 hK6 => ?_
  refine AWp_region ?_
  simp only [↓bO, bS, bA, bF, ↓reduceIte, Nat.reduceEqDiff, reduceCtorEq, List.length_map, bL, Nat.reduceAdd, Nat.reduceLeDiff, Int.toNat_natCast, Int.natCast_nonneg]
  refine hK6 _ ?_; try clear hK6 K6
  refine AWp_ret ?_
  try simp only [bF, retQ, aRes, tupOf, bS, bA]
  refine ⟨_, enumO 0 (cObs (S)), ⟨(S, (0, false)), ?_, rfl, rfl⟩, .tup ⟨.v _ _, .v _ _, trivial⟩, cUnd (by omega) _, ?_, ?_, by omega⟩
  · exact ⟨rfl, by rw [nodeG, hcs]; rfl⟩
  ·
   exact Le.refl _
  · first | (refine ⟨0, rfl, rfl⟩) | (refine ⟨0, by simp only [cObs, enumO, List.drop_zero, List.drop_succ_cons, Nat.reduceAdd], rfl⟩)
 ·
  have hcs : S.clash = false := by (have h9 := hb8; cases hc : S.clash <;> simp [hc] at h9 ⊢)
  refine AWp_skip ?_
  try simp only [bF]
  refine hK2 _ ?_; try clear hK2 K2
  refine AWp_seqK fun K7 hK7 => ?_
  refine AWp_region ?_
  refine aops_chunk 4 fun C8 hC8 => ?_
  simp only [bL, ↓bO, bS, bA, bF, ↓reduceIte, Nat.reduceEqDiff, reduceCtorEq, aField, fo119_1, Nat.reduceAdd, aLoad, ti25, getO, pack, Nat.reduceLeDiff, List.length_map, Int.toNat_natCast, Int.natCast_nonneg]
  refine hC8 _ ?_; clear hC8 C8
  simp only [bL]
  refine aops_chunk 1 fun C9 hC9 => ?_
  simp only [bL, ↓bO, bS, bA, bF, ↓reduceIte, Nat.reduceEqDiff, reduceCtorEq, List.length_map, Nat.reduceAdd, Nat.reduceLeDiff, Int.toNat_natCast, Int.natCast_nonneg]
  refine hC9 _ ?_; clear hC9 C9
  simp only [bL]
  refine aops_chunk 1 fun C10 hC10 => ?_
  simp only [bL, ↓bO, bS, bA, bF, ↓reduceIte, Nat.reduceEqDiff, reduceCtorEq, aCallV, List.length_map, Nat.reduceAdd, Nat.reduceLeDiff, Int.toNat_natCast, Int.natCast_nonneg]
  refine GCalls.at (GVar_calls S.G n) (.cons (.v _) .nil) (.tup (.cons (.v _) (.cons (.v _) .nil))) (i := 1) (j := 2) (k := 3) rfl rfl rfl (by decide) (by decide) (by decide) (by first | omega | (simp only; omega)) (by first | omega | (simp only; omega)) (by first | omega | (simp only; omega)) ?_
  simp only [putO, Nat.reduceEqDiff, ↓reduceIte]
  try simp only [bS, bA, bF]
  refine hC10 _ ?_; clear hC10 C10
  simp only [bL]
  simp only [↓bO, bS, bA, bF, ↓reduceIte, Nat.reduceEqDiff, reduceCtorEq, aExtract, bL, Nat.reduceAdd, Nat.reduceLT, Nat.zero_lt_succ, List.length_map, Nat.reduceLeDiff, Int.toNat_natCast, Int.natCast_nonneg]
  refine hK7 _ ?_; try clear hK7 K7
  refine AWp_ret ?_
  try simp only [bF, retQ, aRes, tupOf, bS, bA]
  refine ⟨_, enumO 0 (cObs (S)), ⟨(S, ((vfind S.G.V n).getD 0, (vfind S.G.V n).isSome)), ?_, rfl, rfl⟩, .tup ⟨.v _ _, .v _ _, trivial⟩, cUnd (by omega) _, ?_, ?_, by omega⟩
  · exact ⟨rfl, by rw [nodeG, hcs]; rfl⟩
  ·
   exact Le.refl _
  · first | (refine ⟨0, rfl, rfl⟩) | (refine ⟨0, by simp only [cObs, enumO, List.drop_zero, List.drop_succ_cons, Nat.reduceAdd], rfl⟩)
theorem FSm_f (F : FS) (hF : FInv F) (a b : Nat) (ha : a < F.up.length) (hb : b < F.up.length) : FCalls (σ := Bool) 77 [.ptr 0 0, .v (.int .i64 (a : Int)), .v (.int .i64 (b : Int))] (F) (fun s => FSame F s.1 ∧ (s.2 = true ↔ One F.up a b)) (fun s => .v (.bool s)) := by
 refine ACalls.clean (C := fun r os => ∃ s : FS × Bool, (FSame F s.1 ∧ (s.2 = true ↔ One F.up a b)) ∧ r = (fun s : Bool => .v (.bool s)) s.2 ∧ os = enumO 0 (fObs s.1)) ?_
 refine ACalls_intro Try.func77 (by kernel_rfl) rfl (by rw [Try.ntmps77]; simp) (fun hm => ?_)
 simp only [Try.ntmps77, Try.results77, List.length_cons, List.length_nil, Nat.reduceAdd, Nat.reduceSub, List.replicate_succ, List.replicate_zero, List.cons_append, List.nil_append]
 simp only [fObs, enumO, Nat.reduceAdd]
 refine AWp_seqK fun K1 hK1 => ?_
 refine AWp_region ?_
 simp only [↓bO, bS, bA, bF, ↓reduceIte, Nat.reduceEqDiff, reduceCtorEq, List.length_map, bL, Nat.reduceAdd, Nat.reduceLeDiff, Int.toNat_natCast, Int.natCast_nonneg]
 refine hK1 _ ?_; try clear hK1 K1
 refine AWp_seqK fun K2 hK2 => ?_
 refine AWp_region ?_
 refine aops_chunk 1 fun C3 hC3 => ?_
 simp only [bL, ↓bO, bS, bA, bF, ↓reduceIte, Nat.reduceEqDiff, reduceCtorEq, List.length_map, Nat.reduceAdd, Nat.reduceLeDiff, Int.toNat_natCast, Int.natCast_nonneg]
 refine hC3 _ ?_; clear hC3 C3
 simp only [bL]
 refine aops_chunk 1 fun C4 hC4 => ?_
 simp only [bL, ↓bO, bS, bA, bF, ↓reduceIte, Nat.reduceEqDiff, reduceCtorEq, List.length_map, Nat.reduceAdd, Nat.reduceLeDiff, Int.toNat_natCast, Int.natCast_nonneg]
 refine hC4 _ ?_; clear hC4 C4
 simp only [bL]
 refine aops_chunk 1 fun C5 hC5 => ?_
 simp only [bL, ↓bO, bS, bA, bF, ↓reduceIte, Nat.reduceEqDiff, reduceCtorEq, aCallV, List.length_map, Nat.reduceAdd, Nat.reduceLeDiff, Int.toNat_natCast, Int.natCast_nonneg]
 refine FCalls.at (there_f F (a : Int)) (.cons (.v _) .nil) (fun _ => .v _) (i := 0) (j := 1) (k := 2) rfl rfl rfl (by decide) (by decide) (by decide) (by first | omega | (simp only; omega)) (by first | omega | (simp only; omega)) (by first | omega | (simp only; omega)) (fun G0 u0 hG0 => ?_)
 try dsimp only at hG0
 simp only [putO, Nat.reduceEqDiff, ↓reduceIte]
 obtain rfl : F = G0 := hG0.symm
 try simp only [bS, bA, bF]
 refine hC5 _ ?_; clear hC5 C5
 simp only [bL]
 refine aops_chunk 1 fun C6 hC6 => ?_
 simp only [bL, ↓bO, bS, bA, bF, ↓reduceIte, Nat.reduceEqDiff, reduceCtorEq, List.length_map, Nat.reduceAdd, Nat.reduceLeDiff, Int.toNat_natCast, Int.natCast_nonneg]
 refine hC6 _ ?_; clear hC6 C6
 simp only [bL]
 refine aops_case 10 rfl (fun hc10 => ?_) (fun hc10 => ?_)
 ·
  simp only [List.set_cons_zero, List.set_cons_succ]
  refine aops_chunk 1 fun C7 hC7 => ?_
  simp only [bL, ↓bO, bS, bA, bF, ↓reduceIte, Nat.reduceEqDiff, reduceCtorEq, undef, List.length_map, Nat.reduceAdd, Nat.reduceLeDiff, Int.toNat_natCast, Int.natCast_nonneg]
  refine hC7 _ ?_; clear hC7 C7
  simp only [bL]
  refine aops_chunk 1 fun C8 hC8 => ?_
  simp only [bL, ↓bO, bS, bA, bF, ↓reduceIte, Nat.reduceEqDiff, reduceCtorEq, undef, List.length_map, Nat.reduceAdd, Nat.reduceLeDiff, Int.toNat_natCast, Int.natCast_nonneg]
  refine hC8 _ ?_; clear hC8 C8
  simp only [bL]
  refine aops_chunk 1 fun C9 hC9 => ?_
  simp only [bL, ↓bO, bS, bA, bF, ↓reduceIte, Nat.reduceEqDiff, reduceCtorEq, undef, aCallV, List.length_map, Nat.reduceAdd, Nat.reduceLeDiff, Int.toNat_natCast, Int.natCast_nonneg]
  refine FCalls.at (there_f F (b : Int)) (.cons (.v _) .nil) (fun _ => .v _) (i := 0) (j := 1) (k := 2) rfl rfl rfl (by decide) (by decide) (by decide) (by first | omega | (simp only; omega)) (by first | omega | (simp only; omega)) (by first | omega | (simp only; omega)) (fun G0 u0 hG0 => ?_)
  try dsimp only at hG0
  simp only [putO, Nat.reduceEqDiff, ↓reduceIte]
  obtain rfl : F = G0 := hG0.symm
  try simp only [bS, bA, bF]
  refine hC9 _ ?_; clear hC9 C9
  simp only [bL]
  refine aops_chunk 1 fun C10 hC10 => ?_
  simp only [bL, ↓bO, bS, bA, bF, ↓reduceIte, Nat.reduceEqDiff, reduceCtorEq, aBool, List.length_map, Nat.reduceAdd, Nat.reduceLeDiff, Int.toNat_natCast, Int.natCast_nonneg]
  refine hC10 _ ?_; clear hC10 C10
  simp only [bL]
  refine aops_chunk 1 fun C11 hC11 => ?_
  simp only [bL, ↓bO, bS, bA, bF, ↓reduceIte, Nat.reduceEqDiff, reduceCtorEq, List.length_map, Nat.reduceAdd, Nat.reduceLeDiff, Int.toNat_natCast, Int.natCast_nonneg]
  refine hC11 _ ?_; clear hC11 C11
  simp only [bL]
  refine aops_case 15 rfl (fun hc15 => ?_) (fun hc15 => ?_)
  ·
   simp only [List.set_cons_zero, List.set_cons_succ]
   refine aops_chunk 1 fun C12 hC12 => ?_
   simp only [bL, ↓bO, bS, bA, bF, ↓reduceIte, Nat.reduceEqDiff, reduceCtorEq, undef, List.length_map, Nat.reduceAdd, Nat.reduceLeDiff, Int.toNat_natCast, Int.natCast_nonneg]
   refine hC12 _ ?_; clear hC12 C12
   simp only [bL]
   refine aops_chunk 1 fun C13 hC13 => ?_
   simp only [bL, ↓bO, bS, bA, bF, ↓reduceIte, Nat.reduceEqDiff, reduceCtorEq, undef, List.length_map, Nat.reduceAdd, Nat.reduceLeDiff, Int.toNat_natCast, Int.natCast_nonneg]
   refine hC13 _ ?_; clear hC13 C13
   simp only [bL]
   refine aops_chunk 1 fun C14 hC14 => ?_
   simp only [bL, ↓bO, bS, bA, bF, ↓reduceIte, Nat.reduceEqDiff, reduceCtorEq, undef, aCallV, List.length_map, Nat.reduceAdd, Nat.reduceLeDiff, Int.toNat_natCast, Int.natCast_nonneg]
   refine FCalls.at (find_f F hF a ha) (.cons (.v _) .nil) (fun _ => .v _) (i := 0) (j := 1) (k := 2) rfl rfl rfl (by decide) (by decide) (by decide) (by first | omega | (simp only; omega)) (by first | omega | (simp only; omega)) (by first | omega | (simp only; omega)) (fun G1 r1 hG1 => ?_)
   try dsimp only at hG1
   simp only [putO, Nat.reduceEqDiff, ↓reduceIte]
   try simp only [bS, bA, bF]
   refine hC14 _ ?_; clear hC14 C14
   simp only [bL]
   refine aops_chunk 1 fun C15 hC15 => ?_
   simp only [bL, ↓bO, bS, bA, bF, ↓reduceIte, Nat.reduceEqDiff, reduceCtorEq, undef, List.length_map, Nat.reduceAdd, Nat.reduceLeDiff, Int.toNat_natCast, Int.natCast_nonneg]
   refine hC15 _ ?_; clear hC15 C15
   simp only [bL]
   refine aops_chunk 1 fun C16 hC16 => ?_
   simp only [bL, ↓bO, bS, bA, bF, ↓reduceIte, Nat.reduceEqDiff, reduceCtorEq, undef, List.length_map, Nat.reduceAdd, Nat.reduceLeDiff, Int.toNat_natCast, Int.natCast_nonneg]
   refine hC16 _ ?_; clear hC16 C16
   simp only [bL]
   refine aops_chunk 1 fun C17 hC17 => ?_
   simp only [bL, ↓bO, bS, bA, bF, ↓reduceIte, Nat.reduceEqDiff, reduceCtorEq, undef, aCallV, List.length_map, Nat.reduceAdd, Nat.reduceLeDiff, Int.toNat_natCast, Int.natCast_nonneg]
   refine FCalls.at (find_f G1 hG1.1.inv b (by rw [hG1.1.len]; exact hb)) (.cons (.v _) .nil) (fun _ => .v _) (i := 0) (j := 1) (k := 2) rfl rfl rfl (by decide) (by decide) (by decide) (by first | omega | (simp only; omega)) (by first | omega | (simp only; omega)) (by first | omega | (simp only; omega)) (fun G2 r2 hG2 => ?_)
   try dsimp only at hG2
   simp only [putO, Nat.reduceEqDiff, ↓reduceIte]
   try simp only [bS, bA, bF]
   refine hC17 _ ?_; clear hC17 C17
   simp only [bL]
   refine aops_chunk 1 fun C18 hC18 => ?_
   simp only [bL, ↓bO, bS, bA, bF, ↓reduceIte, Nat.reduceEqDiff, reduceCtorEq, undef, aBin, List.length_map, Nat.reduceAdd, Nat.reduceLeDiff, Int.toNat_natCast, Int.natCast_nonneg]
   refine hC18 _ ?_; clear hC18 C18
   simp only [bL]
   refine aops_chunk 1 fun C19 hC19 => ?_
   simp only [bL, ↓bO, bS, bA, bF, ↓reduceIte, Nat.reduceEqDiff, reduceCtorEq, aBool, List.length_map, Nat.reduceAdd, Nat.reduceLeDiff, Int.toNat_natCast, Int.natCast_nonneg]
   refine hC19 _ ?_; clear hC19 C19
   simp only [bL]
   simp only [↓bO, bS, bA, bF, ↓reduceIte, Nat.reduceEqDiff, reduceCtorEq, List.length_map, bL, Nat.reduceAdd, Nat.reduceLeDiff, Int.toNat_natCast, Int.natCast_nonneg]
   refine hK2 _ ?_; try clear hK2 K2
   refine AWp_ret ?_
   try simp only [bF, retQ, aRes, tupOf, bS, bA]
   refine ⟨_, enumO 0 (fObs (G2)), ⟨(G2, ((r1 : Int) == (r2 : Int))), ?_, rfl, rfl⟩, .v _ _, fUnd (by omega) _, ?_, ?_, by omega⟩
   · exact ⟨hG1.1.trans hG2.1, by rw [One.of_rt hG1.2 ((hG1.1.rt _ _).1 hG2.2), beq_iff_eq]; omega⟩
   ·
    exact Le.refl _
   · first | (refine ⟨0, rfl, rfl⟩) | (refine ⟨0, by simp only [fObs, enumO, List.drop_zero, List.drop_succ_cons, Nat.reduceAdd], rfl⟩)
  ·
   simp only [List.set_cons_zero, List.set_cons_succ]
   exact absurd hc15 (by simp; omega)
 ·
  simp only [List.set_cons_zero, List.set_cons_succ]
  exact absurd hc10 (by simp; omega)
theorem CSame_c (S : CS) (hF : FInv S.F) (hv : ∀ n k, vfind S.G.V n = some k → 0 ≤ k ∧ k < (S.F.up.length : Int)) (a b : Int) : CCalls (σ := Bool) 44 [.ptr 0 0, .v (.int .i64 a), .v (.int .i64 b)] (S) (fun s => FSame S.F s.1.F ∧ s.1 = { S with F := s.1.F } ∧ (s.2 = true ↔ S.clash = false ∧ ∃ i k, vfind S.G.V a = some i ∧ vfind S.G.V b = some k ∧ One S.F.up i.toNat k.toNat)) (fun s => .v (.bool s)) := by
 refine ACalls.clean (C := fun r os => ∃ s : CS × Bool, (FSame S.F s.1.F ∧ s.1 = { S with F := s.1.F } ∧ (s.2 = true ↔ S.clash = false ∧ ∃ i k, vfind S.G.V a = some i ∧ vfind S.G.V b = some k ∧ One S.F.up i.toNat k.toNat)) ∧ r = (fun s : Bool => .v (.bool s)) s.2 ∧ os = enumO 0 (cObs s.1)) ?_
 refine ACalls_intro Try.func44 (by kernel_rfl) rfl (by rw [Try.ntmps44]; simp) (fun hm => ?_)
 simp only [Try.ntmps44, Try.results44, List.length_cons, List.length_nil, Nat.reduceAdd, Nat.reduceSub, List.replicate_succ, List.replicate_zero, List.cons_append, List.nil_append]
 simp only [cObs, enumO, Nat.reduceAdd]
 refine AWp_seqK fun K1 hK1 => ?_
 refine AWp_region ?_
 simp only [↓bO, bS, bA, bF, ↓reduceIte, Nat.reduceEqDiff, reduceCtorEq, List.length_map, bL, Nat.reduceAdd, Nat.reduceLeDiff, Int.toNat_natCast, Int.natCast_nonneg]
 refine hK1 _ ?_; try clear hK1 K1
 refine AWp_seqK fun K2 hK2 => ?_
 refine AWp_region ?_
 refine aops_chunk 1 fun C3 hC3 => ?_
 simp only [bL, ↓bO, bS, bA, bF, ↓reduceIte, Nat.reduceEqDiff, reduceCtorEq, List.length_map, Nat.reduceAdd, Nat.reduceLeDiff, Int.toNat_natCast, Int.natCast_nonneg]
 refine hC3 _ ?_; clear hC3 C3
 simp only [bL]
 refine aops_chunk 1 fun C4 hC4 => ?_
 simp only [bL, ↓bO, bS, bA, bF, ↓reduceIte, Nat.reduceEqDiff, reduceCtorEq, List.length_map, Nat.reduceAdd, Nat.reduceLeDiff, Int.toNat_natCast, Int.natCast_nonneg]
 refine hC4 _ ?_; clear hC4 C4
 simp only [bL]
 refine aops_chunk 1 fun C5 hC5 => ?_
 simp only [bL, ↓bO, bS, bA, bF, ↓reduceIte, Nat.reduceEqDiff, reduceCtorEq, aCallV, List.length_map, Nat.reduceAdd, Nat.reduceLeDiff, Int.toNat_natCast, Int.natCast_nonneg]
 refine CCalls.at (node_c S a) (.cons (.v _) .nil) (fun _ => .tup (.cons (.v _) (.cons (.v _) .nil))) (i0 := 0) (i1 := 1) (i2 := 2) (i3 := 3) (i4 := 4) (i5 := 5) (i6 := 6) (i7 := 7) (by decide) (by simp) ⟨rfl, rfl, rfl, rfl, rfl, rfl, rfl, rfl, trivial⟩ (fun Z9 u9 hZ9 => ?_)
 try dsimp only at hZ9
 simp only [cObsAt, List.zip_cons_cons, List.zip_nil_left, List.zip_nil_right, putsO, putO, Nat.reduceEqDiff, ↓reduceIte]
 obtain ⟨hZ, rfl⟩ := hZ9
 obtain rfl : S = Z9 := hZ.symm
 try simp only [bS, bA, bF]
 refine hC5 _ ?_; clear hC5 C5
 simp only [bL]
 refine aops_chunk 1 fun C6 hC6 => ?_
 simp only [bL, ↓bO, bS, bA, bF, ↓reduceIte, Nat.reduceEqDiff, reduceCtorEq, List.length_map, Nat.reduceAdd, Nat.reduceLeDiff, Int.toNat_natCast, Int.natCast_nonneg]
 refine hC6 _ ?_; clear hC6 C6
 simp only [bL]
 refine aops_chunk 1 fun C7 hC7 => ?_
 simp only [bL, ↓bO, bS, bA, bF, ↓reduceIte, Nat.reduceEqDiff, reduceCtorEq, aExtract, Nat.reduceAdd, Nat.reduceLT, Nat.zero_lt_succ, List.length_map, Nat.reduceLeDiff, Int.toNat_natCast, Int.natCast_nonneg]
 refine hC7 _ ?_; clear hC7 C7
 simp only [bL]
 refine aops_chunk 1 fun C8 hC8 => ?_
 simp only [bL, ↓bO, bS, bA, bF, ↓reduceIte, Nat.reduceEqDiff, reduceCtorEq, aExtract, Nat.reduceAdd, Nat.reduceLT, Nat.zero_lt_succ, List.length_map, Nat.reduceLeDiff, Int.toNat_natCast, Int.natCast_nonneg]
 refine hC8 _ ?_; clear hC8 C8
 simp only [bL]
 refine aops_chunk 1 fun C9 hC9 => ?_
 simp only [bL, ↓bO, bS, bA, bF, ↓reduceIte, Nat.reduceEqDiff, reduceCtorEq, List.length_map, Nat.reduceAdd, Nat.reduceLeDiff, Int.toNat_natCast, Int.natCast_nonneg]
 refine hC9 _ ?_; clear hC9 C9
 simp only [bL]
 simp only [↓bO, bS, bA, bF, ↓reduceIte, Nat.reduceEqDiff, reduceCtorEq, List.length_map, bL, Nat.reduceAdd, Nat.reduceLeDiff, Int.toNat_natCast, Int.natCast_nonneg]
 refine hK2 _ ?_; try clear hK2 K2
 refine AWp_seqK fun K10 hK10 => ?_
 refine AWp_region ?_
 refine aops_chunk 1 fun C11 hC11 => ?_
 simp only [bL, ↓bO, bS, bA, bF, ↓reduceIte, Nat.reduceEqDiff, reduceCtorEq, List.length_map, Nat.reduceAdd, Nat.reduceLeDiff, Int.toNat_natCast, Int.natCast_nonneg]
 refine hC11 _ ?_; clear hC11 C11
 simp only [bL]
 refine aops_chunk 1 fun C12 hC12 => ?_
 simp only [bL, ↓bO, bS, bA, bF, ↓reduceIte, Nat.reduceEqDiff, reduceCtorEq, List.length_map, Nat.reduceAdd, Nat.reduceLeDiff, Int.toNat_natCast, Int.natCast_nonneg]
 refine hC12 _ ?_; clear hC12 C12
 simp only [bL]
 refine aops_chunk 1 fun C13 hC13 => ?_
 simp only [bL, ↓bO, bS, bA, bF, ↓reduceIte, Nat.reduceEqDiff, reduceCtorEq, aCallV, List.length_map, Nat.reduceAdd, Nat.reduceLeDiff, Int.toNat_natCast, Int.natCast_nonneg]
 refine CCalls.at (node_c S b) (.cons (.v _) .nil) (fun _ => .tup (.cons (.v _) (.cons (.v _) .nil))) (i0 := 0) (i1 := 1) (i2 := 2) (i3 := 3) (i4 := 4) (i5 := 5) (i6 := 6) (i7 := 7) (by decide) (by simp) ⟨rfl, rfl, rfl, rfl, rfl, rfl, rfl, rfl, trivial⟩ (fun Z9 z9 hZ8 => ?_)
 try dsimp only at hZ8
 simp only [cObsAt, List.zip_cons_cons, List.zip_nil_left, List.zip_nil_right, putsO, putO, Nat.reduceEqDiff, ↓reduceIte]
 obtain ⟨hZ, rfl⟩ := hZ8
 obtain rfl : S = Z9 := hZ.symm
 try simp only [bS, bA, bF]
 refine hC13 _ ?_; clear hC13 C13
 simp only [bL]
 refine aops_chunk 1 fun C14 hC14 => ?_
 simp only [bL, ↓bO, bS, bA, bF, ↓reduceIte, Nat.reduceEqDiff, reduceCtorEq, List.length_map, Nat.reduceAdd, Nat.reduceLeDiff, Int.toNat_natCast, Int.natCast_nonneg]
 refine hC14 _ ?_; clear hC14 C14
 simp only [bL]
 refine aops_chunk 1 fun C15 hC15 => ?_
 simp only [bL, ↓bO, bS, bA, bF, ↓reduceIte, Nat.reduceEqDiff, reduceCtorEq, aExtract, Nat.reduceAdd, Nat.reduceLT, Nat.zero_lt_succ, List.length_map, Nat.reduceLeDiff, Int.toNat_natCast, Int.natCast_nonneg]
 refine hC15 _ ?_; clear hC15 C15
 simp only [bL]
 refine aops_chunk 1 fun C16 hC16 => ?_
 simp only [bL, ↓bO, bS, bA, bF, ↓reduceIte, Nat.reduceEqDiff, reduceCtorEq, aExtract, Nat.reduceAdd, Nat.reduceLT, Nat.zero_lt_succ, List.length_map, Nat.reduceLeDiff, Int.toNat_natCast, Int.natCast_nonneg]
 refine hC16 _ ?_; clear hC16 C16
 simp only [bL]
 refine aops_chunk 1 fun C17 hC17 => ?_
 simp only [bL, ↓bO, bS, bA, bF, ↓reduceIte, Nat.reduceEqDiff, reduceCtorEq, List.length_map, Nat.reduceAdd, Nat.reduceLeDiff, Int.toNat_natCast, Int.natCast_nonneg]
 refine hC17 _ ?_; clear hC17 C17
 simp only [bL]
 simp only [↓bO, bS, bA, bF, ↓reduceIte, Nat.reduceEqDiff, reduceCtorEq, List.length_map, bL, Nat.reduceAdd, Nat.reduceLeDiff, Int.toNat_natCast, Int.natCast_nonneg]
 refine hK10 _ ?_; try clear hK10 K10
 refine AWp_seqK fun K18 hK18 => ?_
 refine AWp_region ?_
 refine aops_chunk 1 fun C19 hC19 => ?_
 simp only [bL, ↓bO, bS, bA, bF, ↓reduceIte, Nat.reduceEqDiff, reduceCtorEq, List.length_map, Nat.reduceAdd, Nat.reduceLeDiff, Int.toNat_natCast, Int.natCast_nonneg]
 refine hC19 _ ?_; clear hC19 C19
 simp only [bL]
 refine aops_chunk 1 fun C20 hC20 => ?_
 simp only [bL, ↓bO, bS, bA, bF, ↓reduceIte, Nat.reduceEqDiff, reduceCtorEq, List.length_map, Nat.reduceAdd, Nat.reduceLeDiff, Int.toNat_natCast, Int.natCast_nonneg]
 refine hC20 _ ?_; clear hC20 C20
 simp only [bL]
 refine aops_case 24 rfl (fun hc24 => ?_) (fun hc24 => ?_)
 ·
  simp only [List.set_cons_zero, List.set_cons_succ]
  obtain ⟨hcs, i0, hvi, hi0⟩ := nodeG_some hc24
  refine aops_chunk 1 fun C21 hC21 => ?_
  simp only [bL, ↓bO, bS, bA, bF, ↓reduceIte, Nat.reduceEqDiff, reduceCtorEq, undef, List.length_map, Nat.reduceAdd, Nat.reduceLeDiff, Int.toNat_natCast, Int.natCast_nonneg]
  refine hC21 _ ?_; clear hC21 C21
  simp only [bL]
  refine aops_chunk 1 fun C22 hC22 => ?_
  simp only [bL, ↓bO, bS, bA, bF, ↓reduceIte, Nat.reduceEqDiff, reduceCtorEq, aBool, List.length_map, Nat.reduceAdd, Nat.reduceLeDiff, Int.toNat_natCast, Int.natCast_nonneg]
  refine hC22 _ ?_; clear hC22 C22
  simp only [bL]
  refine aops_chunk 1 fun C23 hC23 => ?_
  simp only [bL, ↓bO, bS, bA, bF, ↓reduceIte, Nat.reduceEqDiff, reduceCtorEq, List.length_map, Nat.reduceAdd, Nat.reduceLeDiff, Int.toNat_natCast, Int.natCast_nonneg]
  refine hC23 _ ?_; clear hC23 C23
  simp only [bL]
  refine aops_case 27 rfl (fun hc27 => ?_) (fun hc27 => ?_)
  ·
   simp only [List.set_cons_zero, List.set_cons_succ]
   obtain ⟨_, k0, hvk, hk0⟩ := nodeG_some hc27
   have hib := hv _ _ hvi
   have hkb := hv _ _ hvk
   obtain ⟨i, rfl⟩ : ∃ i : Nat, i0 = (i : Int) := ⟨i0.toNat, by omega⟩
   obtain ⟨k, rfl⟩ : ∃ k : Nat, k0 = (k : Int) := ⟨k0.toNat, by omega⟩
   refine aops_chunk 1 fun C24 hC24 => ?_
   simp only [bL, ↓bO, bS, bA, bF, ↓reduceIte, Nat.reduceEqDiff, reduceCtorEq, undef, List.length_map, Nat.reduceAdd, Nat.reduceLeDiff, Int.toNat_natCast, Int.natCast_nonneg, hi0, hk0]
   refine hC24 _ ?_; clear hC24 C24
   simp only [bL]
   refine aops_chunk 1 fun C25 hC25 => ?_
   simp only [bL, ↓bO, bS, bA, bF, ↓reduceIte, Nat.reduceEqDiff, reduceCtorEq, undef, List.length_map, Nat.reduceAdd, Nat.reduceLeDiff, Int.toNat_natCast, Int.natCast_nonneg, hi0, hk0]
   refine hC25 _ ?_; clear hC25 C25
   simp only [bL]
   refine aops_chunk 1 fun C26 hC26 => ?_
   simp only [bL, ↓bO, bS, bA, bF, ↓reduceIte, Nat.reduceEqDiff, reduceCtorEq, undef, aField, fo119_2, Nat.reduceAdd, List.length_map, Nat.reduceLeDiff, Int.toNat_natCast, Int.natCast_nonneg, hi0, hk0]
   refine hC26 _ ?_; clear hC26 C26
   simp only [bL]
   refine aops_chunk 1 fun C27 hC27 => ?_
   simp only [bL, ↓bO, bS, bA, bF, ↓reduceIte, Nat.reduceEqDiff, reduceCtorEq, undef, aLoad, ti113, getO, pack, Nat.reduceAdd, Nat.reduceLeDiff, List.length_map, Int.toNat_natCast, Int.natCast_nonneg, hi0, hk0]
   refine hC27 _ ?_; clear hC27 C27
   simp only [bL]
   refine aops_chunk 1 fun C28 hC28 => ?_
   simp only [bL, ↓bO, bS, bA, bF, ↓reduceIte, Nat.reduceEqDiff, reduceCtorEq, undef, List.length_map, Nat.reduceAdd, Nat.reduceLeDiff, Int.toNat_natCast, Int.natCast_nonneg, hi0, hk0]
   refine hC28 _ ?_; clear hC28 C28
   simp only [bL]
   refine aops_chunk 1 fun C29 hC29 => ?_
   simp only [bL, ↓bO, bS, bA, bF, ↓reduceIte, Nat.reduceEqDiff, reduceCtorEq, undef, List.length_map, Nat.reduceAdd, Nat.reduceLeDiff, Int.toNat_natCast, Int.natCast_nonneg, hi0, hk0]
   refine hC29 _ ?_; clear hC29 C29
   simp only [bL]
   refine aops_chunk 1 fun C30 hC30 => ?_
   simp only [bL, ↓bO, bS, bA, bF, ↓reduceIte, Nat.reduceEqDiff, reduceCtorEq, undef, aCallV, List.length_map, Nat.reduceAdd, Nat.reduceLeDiff, Int.toNat_natCast, Int.natCast_nonneg, hi0, hk0]
   refine FCalls.at (FSm_f S.F hF i k (by omega) (by omega)) (.cons (.v _) (.cons (.v _) .nil)) (fun _ => .v _) (i := 4) (j := 5) (k := 6) rfl rfl rfl (by decide) (by decide) (by decide) (by first | omega | (simp only; omega)) (by first | omega | (simp only; omega)) (by first | omega | (simp only; omega)) (fun G1 r1 hG1 => ?_)
   try dsimp only at hG1
   simp only [putO, Nat.reduceEqDiff, ↓reduceIte]
   try simp only [bS, bA, bF]
   refine hC30 _ ?_; clear hC30 C30
   simp only [bL]
   refine aops_chunk 1 fun C31 hC31 => ?_
   simp only [bL, ↓bO, bS, bA, bF, ↓reduceIte, Nat.reduceEqDiff, reduceCtorEq, aBool, List.length_map, Nat.reduceAdd, Nat.reduceLeDiff, Int.toNat_natCast, Int.natCast_nonneg, hi0, hk0]
   refine hC31 _ ?_; clear hC31 C31
   simp only [bL]
   simp only [↓bO, bS, bA, bF, ↓reduceIte, Nat.reduceEqDiff, reduceCtorEq, List.length_map, bL, Nat.reduceAdd, Nat.reduceLeDiff, Int.toNat_natCast, Int.natCast_nonneg, hi0, hk0]
   refine hK18 _ ?_; try clear hK18 K18
   refine AWp_ret ?_
   try simp only [bF, retQ, aRes, tupOf, bS, bA]
   refine ⟨_, enumO 0 (cObs ({ S with F := G1 })), ⟨({ S with F := G1 }, r1), ?_, rfl, rfl⟩, .v _ _, cUnd (by omega) _, ?_, ?_, by omega⟩
   · exact ⟨hG1.1, rfl, hG1.2.trans ⟨fun h9 => ⟨hcs, _, _, hvi, hvk, h9⟩, fun h9 => (by obtain ⟨_, i9, k9, h1, h2, h3⟩ := h9; rw [hvi] at h1; rw [hvk] at h2; cases h1; cases h2; exact h3)⟩⟩
   ·
    exact Le.refl _
   · first | (refine ⟨0, rfl, rfl⟩) | (refine ⟨0, by simp only [cObs, enumO, List.drop_zero, List.drop_succ_cons, Nat.reduceAdd], rfl⟩)
  ·
   simp only [List.set_cons_zero, List.set_cons_succ]
   have hno2 := nodeG_none hc27
   refine aops_chunk 1 fun C32 hC32 => ?_
   simp only [bL, ↓bO, bS, bA, bF, ↓reduceIte, Nat.reduceEqDiff, reduceCtorEq, undef, List.length_map, Nat.reduceAdd, Nat.reduceLeDiff, Int.toNat_natCast, Int.natCast_nonneg]
   refine hC32 _ ?_; clear hC32 C32
   simp only [bL]
   refine aops_chunk 1 fun C33 hC33 => ?_
   simp only [bL, ↓bO, bS, bA, bF, ↓reduceIte, Nat.reduceEqDiff, reduceCtorEq, undef, List.length_map, Nat.reduceAdd, Nat.reduceLeDiff, Int.toNat_natCast, Int.natCast_nonneg]
   refine hC33 _ ?_; clear hC33 C33
   simp only [bL]
   refine aops_chunk 1 fun C34 hC34 => ?_
   simp only [bL, ↓bO, bS, bA, bF, ↓reduceIte, Nat.reduceEqDiff, reduceCtorEq, undef, aField, fo119_2, Nat.reduceAdd, List.length_map, Nat.reduceLeDiff, Int.toNat_natCast, Int.natCast_nonneg]
   refine hC34 _ ?_; clear hC34 C34
   simp only [bL]
   refine aops_chunk 1 fun C35 hC35 => ?_
   simp only [bL, ↓bO, bS, bA, bF, ↓reduceIte, Nat.reduceEqDiff, reduceCtorEq, undef, aLoad, ti113, getO, pack, Nat.reduceAdd, Nat.reduceLeDiff, List.length_map, Int.toNat_natCast, Int.natCast_nonneg]
   refine hC35 _ ?_; clear hC35 C35
   simp only [bL]
   refine aops_chunk 1 fun C36 hC36 => ?_
   simp only [bL, ↓bO, bS, bA, bF, ↓reduceIte, Nat.reduceEqDiff, reduceCtorEq, undef, List.length_map, Nat.reduceAdd, Nat.reduceLeDiff, Int.toNat_natCast, Int.natCast_nonneg]
   refine hC36 _ ?_; clear hC36 C36
   simp only [bL]
   refine aops_chunk 1 fun C37 hC37 => ?_
   simp only [bL, ↓bO, bS, bA, bF, ↓reduceIte, Nat.reduceEqDiff, reduceCtorEq, undef, List.length_map, Nat.reduceAdd, Nat.reduceLeDiff, Int.toNat_natCast, Int.natCast_nonneg]
   refine hC37 _ ?_; clear hC37 C37
   simp only [bL]
   refine aops_chunk 1 fun C38 hC38 => ?_
   simp only [bL, ↓bO, bS, bA, bF, ↓reduceIte, Nat.reduceEqDiff, reduceCtorEq, undef, aCallV, List.length_map, Nat.reduceAdd, Nat.reduceLeDiff, Int.toNat_natCast, Int.natCast_nonneg]
   refine hC38 _ ?_; clear hC38 C38
   simp only [bL]
   refine aops_chunk 1 fun C39 hC39 => ?_
   simp only [bL, ↓bO, bS, bA, bF, ↓reduceIte, Nat.reduceEqDiff, reduceCtorEq, aBool, List.length_map, Nat.reduceAdd, Nat.reduceLeDiff, Int.toNat_natCast, Int.natCast_nonneg]
   refine hC39 _ ?_; clear hC39 C39
   simp only [bL]
   simp only [↓bO, bS, bA, bF, ↓reduceIte, Nat.reduceEqDiff, reduceCtorEq, List.length_map, bL, Nat.reduceAdd, Nat.reduceLeDiff, Int.toNat_natCast, Int.natCast_nonneg]
   refine hK18 _ ?_; try clear hK18 K18
   refine AWp_ret ?_
   try simp only [bF, retQ, aRes, tupOf, bS, bA]
   refine ⟨_, enumO 0 (cObs (S)), ⟨(S, false), ?_, rfl, rfl⟩, .v _ _, cUnd (by omega) _, ?_, ?_, by omega⟩
   · exact ⟨FSame.refl hF, rfl, by rcases hno2 with h9 | h9 <;> simp [h9]⟩
   ·
    exact Le.refl _
   · first | (refine ⟨0, rfl, rfl⟩) | (refine ⟨0, by simp only [cObs, enumO, List.drop_zero, List.drop_succ_cons, Nat.reduceAdd], rfl⟩)
 ·
  simp only [List.set_cons_zero, List.set_cons_succ]
  have hno := nodeG_none hc24
  refine aops_chunk 1 fun C40 hC40 => ?_
  simp only [bL, ↓bO, bS, bA, bF, ↓reduceIte, Nat.reduceEqDiff, reduceCtorEq, undef, List.length_map, Nat.reduceAdd, Nat.reduceLeDiff, Int.toNat_natCast, Int.natCast_nonneg]
  refine hC40 _ ?_; clear hC40 C40
  simp only [bL]
  refine aops_chunk 1 fun C41 hC41 => ?_
  simp only [bL, ↓bO, bS, bA, bF, ↓reduceIte, Nat.reduceEqDiff, reduceCtorEq, aBool, List.length_map, Nat.reduceAdd, Nat.reduceLeDiff, Int.toNat_natCast, Int.natCast_nonneg]
  refine hC41 _ ?_; clear hC41 C41
  simp only [bL]
  refine aops_chunk 1 fun C42 hC42 => ?_
  simp only [bL, ↓bO, bS, bA, bF, ↓reduceIte, Nat.reduceEqDiff, reduceCtorEq, List.length_map, Nat.reduceAdd, Nat.reduceLeDiff, Int.toNat_natCast, Int.natCast_nonneg]
  refine hC42 _ ?_; clear hC42 C42
  simp only [bL]
  refine aops_chunk 1 fun C43 hC43 => ?_
  simp only [bL, ↓bO, bS, bA, bF, ↓reduceIte, Nat.reduceEqDiff, reduceCtorEq, undef, List.length_map, Nat.reduceAdd, Nat.reduceLeDiff, Int.toNat_natCast, Int.natCast_nonneg]
  refine hC43 _ ?_; clear hC43 C43
  simp only [bL]
  refine aops_chunk 1 fun C44 hC44 => ?_
  simp only [bL, ↓bO, bS, bA, bF, ↓reduceIte, Nat.reduceEqDiff, reduceCtorEq, undef, List.length_map, Nat.reduceAdd, Nat.reduceLeDiff, Int.toNat_natCast, Int.natCast_nonneg]
  refine hC44 _ ?_; clear hC44 C44
  simp only [bL]
  refine aops_chunk 1 fun C45 hC45 => ?_
  simp only [bL, ↓bO, bS, bA, bF, ↓reduceIte, Nat.reduceEqDiff, reduceCtorEq, undef, aField, fo119_2, Nat.reduceAdd, List.length_map, Nat.reduceLeDiff, Int.toNat_natCast, Int.natCast_nonneg]
  refine hC45 _ ?_; clear hC45 C45
  simp only [bL]
  refine aops_chunk 1 fun C46 hC46 => ?_
  simp only [bL, ↓bO, bS, bA, bF, ↓reduceIte, Nat.reduceEqDiff, reduceCtorEq, undef, aLoad, ti113, getO, pack, Nat.reduceAdd, Nat.reduceLeDiff, List.length_map, Int.toNat_natCast, Int.natCast_nonneg]
  refine hC46 _ ?_; clear hC46 C46
  simp only [bL]
  refine aops_chunk 1 fun C47 hC47 => ?_
  simp only [bL, ↓bO, bS, bA, bF, ↓reduceIte, Nat.reduceEqDiff, reduceCtorEq, undef, List.length_map, Nat.reduceAdd, Nat.reduceLeDiff, Int.toNat_natCast, Int.natCast_nonneg]
  refine hC47 _ ?_; clear hC47 C47
  simp only [bL]
  refine aops_chunk 1 fun C48 hC48 => ?_
  simp only [bL, ↓bO, bS, bA, bF, ↓reduceIte, Nat.reduceEqDiff, reduceCtorEq, undef, List.length_map, Nat.reduceAdd, Nat.reduceLeDiff, Int.toNat_natCast, Int.natCast_nonneg]
  refine hC48 _ ?_; clear hC48 C48
  simp only [bL]
  refine aops_chunk 1 fun C49 hC49 => ?_
  simp only [bL, ↓bO, bS, bA, bF, ↓reduceIte, Nat.reduceEqDiff, reduceCtorEq, undef, aCallV, List.length_map, Nat.reduceAdd, Nat.reduceLeDiff, Int.toNat_natCast, Int.natCast_nonneg]
  refine hC49 _ ?_; clear hC49 C49
  simp only [bL]
  refine aops_chunk 1 fun C50 hC50 => ?_
  simp only [bL, ↓bO, bS, bA, bF, ↓reduceIte, Nat.reduceEqDiff, reduceCtorEq, aBool, List.length_map, Nat.reduceAdd, Nat.reduceLeDiff, Int.toNat_natCast, Int.natCast_nonneg]
  refine hC50 _ ?_; clear hC50 C50
  simp only [bL]
  simp only [↓bO, bS, bA, bF, ↓reduceIte, Nat.reduceEqDiff, reduceCtorEq, List.length_map, bL, Nat.reduceAdd, Nat.reduceLeDiff, Int.toNat_natCast, Int.natCast_nonneg]
  refine hK18 _ ?_; try clear hK18 K18
  refine AWp_ret ?_
  try simp only [bF, retQ, aRes, tupOf, bS, bA]
  refine ⟨_, enumO 0 (cObs (S)), ⟨(S, false), ?_, rfl, rfl⟩, .v _ _, cUnd (by omega) _, ?_, ?_, by omega⟩
  · exact ⟨FSame.refl hF, rfl, by rcases hno with h9 | h9 <;> simp [h9]⟩
  ·
   exact Le.refl _
  · first | (refine ⟨0, rfl, rfl⟩) | (refine ⟨0, by simp only [cObs, enumO, List.drop_zero, List.drop_succ_cons, Nat.reduceAdd], rfl⟩)
theorem PKind_c (S : CS) (hw : ∀ w ∈ S.W, w = -1 ∨ (0 ≤ w ∧ w < (S.G.N.length : Int))) (r : Nat) (x : Int) (hx : S.W[r]? = some x) : ACalls Try.prog 79 [.agg [.ptr 0 0, .v (.int .i64 (r : Int))]] (enumO 0 (cObs S)) 8 fun z os n => (∃ s : CS × Int, (s.1 = S ∧ ((x < 0 ∧ s.2 = 0) ∨ (0 ≤ x ∧ ∃ g, S.G.N[x.toNat]? = some g ∧ s.2 = g.k))) ∧ z = (fun s : Int => .v (.int .i64 s)) s.2 ∧ os = enumO 0 (cObs s.1)) ∧ n = 8 := by
 refine ACalls.clean (C := fun z os => ∃ s : CS × Int, (s.1 = S ∧ ((x < 0 ∧ s.2 = 0) ∨ (0 ≤ x ∧ ∃ g, S.G.N[x.toNat]? = some g ∧ s.2 = g.k))) ∧ z = (fun s : Int => .v (.int .i64 s)) s.2 ∧ os = enumO 0 (cObs s.1)) ?_
 refine ACalls_intro Try.func79 (by kernel_rfl) rfl (by rw [Try.ntmps79]; simp) (fun hm => ?_)
 simp only [Try.ntmps79, Try.results79, List.length_cons, List.length_nil, Nat.reduceAdd, Nat.reduceSub, List.replicate_succ, List.replicate_zero, List.cons_append, List.nil_append]
 simp only [cObs, enumO, Nat.reduceAdd]
 have hrl := (List.getElem?_eq_some_iff.1 hx).1
 have hwx := hw x (List.mem_of_getElem? hx)
 refine AWp_seqK fun K1 hK1 => ?_
 refine AWp_region ?_
 refine aops_chunk 1 fun C2 hC2 => ?_
 simp only [bL, ↓bO, bS, bA, bF, ↓reduceIte, Nat.reduceEqDiff, reduceCtorEq, List.length_map, Nat.reduceAdd, Nat.reduceLeDiff, Int.toNat_natCast, Int.natCast_nonneg, hrl, gM hx, intC, Int.ofNat_lt]
 refine hC2 _ ?_; clear hC2 C2
 simp only [bL]
 simp only [↓bO, bS, bA, bF, ↓reduceIte, Nat.reduceEqDiff, reduceCtorEq, List.length_map, bL, Nat.reduceAdd, Nat.reduceLeDiff, Int.toNat_natCast, Int.natCast_nonneg, hrl, gM hx, intC, Int.ofNat_lt]
 refine hK1 _ ?_; try clear hK1 K1
 refine AWp_seqK fun K3 hK3 => ?_
 refine AWp_seqK fun K4 hK4 => ?_
 refine AWp_drawK 15 mixed (by kernel_rfl) fun K5 hK5 => ?_
 simp only [bL]
 refine dRun_chunk 1 fun C6 hC6 => ?_
 simp only [bL, ↓dRun, ↓dOp, ↓bO, bS, bA, bF, ↓reduceIte, Nat.reduceEqDiff, reduceCtorEq, aField, fo125_0, Nat.reduceAdd, List.length_map, Nat.reduceLeDiff, Int.toNat_natCast, Int.natCast_nonneg, hrl, gM hx, intC, Int.ofNat_lt]
 refine hC6 _ ?_; clear hC6 C6
 simp only [bL]
 refine dRun_chunk 1 fun C7 hC7 => ?_
 simp only [bL, ↓dRun, ↓dOp, ↓bO, bS, bA, bF, ↓reduceIte, Nat.reduceEqDiff, reduceCtorEq, aLoad, ti67, getO, pack, Nat.reduceAdd, Nat.reduceLeDiff, List.length_map, Int.toNat_natCast, Int.natCast_nonneg, hrl, gM hx, intC, Int.ofNat_lt]
 refine hC7 _ ?_; clear hC7 C7
 simp only [bL]
 refine dRun_chunk 1 fun C8 hC8 => ?_
 simp only [bL, ↓dRun, ↓dOp, ↓bO, bS, bA, bF, ↓reduceIte, Nat.reduceEqDiff, reduceCtorEq, aBin, pt67, List.length_map, Nat.reduceAdd, Nat.reduceLeDiff, Int.toNat_natCast, Int.natCast_nonneg, hrl, gM hx, intC, Int.ofNat_lt]
 refine hC8 _ ?_; clear hC8 C8
 simp only [bL]
 refine dRun_chunk 1 fun C9 hC9 => ?_
 simp only [bL, ↓dRun, ↓dOp, ↓bO, bS, bA, bF, ↓reduceIte, Nat.reduceEqDiff, reduceCtorEq, List.length_map, Nat.reduceAdd, Nat.reduceLeDiff, Int.toNat_natCast, Int.natCast_nonneg, hrl, gM hx, intC, Int.ofNat_lt]
 refine hC9 _ ?_; clear hC9 C9
 simp only [bL]
 refine dRun_case 6 rfl (fun hc6 => ?_) (fun hc6 => ?_)
 ·
  simp only [List.set_cons_zero, List.set_cons_succ]
  cases hc6
 ·
  simp only [List.set_cons_zero, List.set_cons_succ]
  refine dRun_chunk 1 fun C10 hC10 => ?_
  simp only [bL, ↓dRun, ↓dOp, ↓bO, bS, bA, bF, ↓reduceIte, Nat.reduceEqDiff, reduceCtorEq, undef, aField, fo125_0, Nat.reduceAdd, List.length_map, Nat.reduceLeDiff, Int.toNat_natCast, Int.natCast_nonneg, hrl, gM hx, intC, Int.ofNat_lt]
  refine hC10 _ ?_; clear hC10 C10
  simp only [bL]
  refine dRun_chunk 1 fun C11 hC11 => ?_
  simp only [bL, ↓dRun, ↓dOp, ↓bO, bS, bA, bF, ↓reduceIte, Nat.reduceEqDiff, reduceCtorEq, undef, aLoad, ti67, getO, pack, Nat.reduceAdd, Nat.reduceLeDiff, List.length_map, Int.toNat_natCast, Int.natCast_nonneg, hrl, gM hx, intC, Int.ofNat_lt]
  refine hC11 _ ?_; clear hC11 C11
  simp only [bL]
  refine dRun_chunk 1 fun C12 hC12 => ?_
  simp only [bL, ↓dRun, ↓dOp, ↓bO, bS, bA, bF, ↓reduceIte, Nat.reduceEqDiff, reduceCtorEq, undef, List.length_map, Nat.reduceAdd, Nat.reduceLeDiff, Int.toNat_natCast, Int.natCast_nonneg, hrl, gM hx, intC, Int.ofNat_lt]
  refine hC12 _ ?_; clear hC12 C12
  simp only [bL]
  refine dRun_chunk 1 fun C13 hC13 => ?_
  simp only [bL, ↓dRun, ↓dOp, ↓bO, bS, bA, bF, ↓reduceIte, Nat.reduceEqDiff, reduceCtorEq, undef, aField, fo119_3, Nat.reduceAdd, List.length_map, Nat.reduceLeDiff, Int.toNat_natCast, Int.natCast_nonneg, hrl, gM hx, intC, Int.ofNat_lt]
  refine hC13 _ ?_; clear hC13 C13
  simp only [bL]
  refine dRun_chunk 1 fun C14 hC14 => ?_
  simp only [bL, ↓dRun, ↓dOp, ↓bO, bS, bA, bF, ↓reduceIte, Nat.reduceEqDiff, reduceCtorEq, undef, aLoad, ti28, getO, pack, Nat.reduceAdd, Nat.reduceLeDiff, List.length_map, Int.toNat_natCast, Int.natCast_nonneg, hrl, gM hx, intC, Int.ofNat_lt]
  refine hC14 _ ?_; clear hC14 C14
  simp only [bL]
  refine dRun_chunk 1 fun C15 hC15 => ?_
  simp only [bL, ↓dRun, ↓dOp, ↓bO, bS, bA, bF, ↓reduceIte, Nat.reduceEqDiff, reduceCtorEq, undef, aField, fo125_1, Nat.reduceAdd, List.length_map, Nat.reduceLeDiff, Int.toNat_natCast, Int.natCast_nonneg, hrl, gM hx, intC, Int.ofNat_lt]
  refine hC15 _ ?_; clear hC15 C15
  simp only [bL]
  refine dRun_chunk 1 fun C16 hC16 => ?_
  simp only [bL, ↓dRun, ↓dOp, ↓bO, bS, bA, bF, ↓reduceIte, Nat.reduceEqDiff, reduceCtorEq, undef, aLoad, ti3, getO, pack, Nat.reduceAdd, Nat.reduceLeDiff, List.length_map, Int.toNat_natCast, Int.natCast_nonneg, hrl, gM hx, intC, Int.ofNat_lt]
  refine hC16 _ ?_; clear hC16 C16
  simp only [bL]
  refine dRun_chunk 1 fun C17 hC17 => ?_
  simp only [bL, ↓dRun, ↓dOp, ↓bO, bS, bA, bF, ↓reduceIte, Nat.reduceEqDiff, reduceCtorEq, undef, getO, aIndexA, es28, Int.natCast_nonneg, Int.ofNat_lt, Int.toNat_natCast, List.length_map, Int.le_refl, Int.toNat_zero, Int.toNat_one, Int.reduceLE, Nat.reduceAdd, Nat.reduceLeDiff, hrl, gM hx, intC]
  refine hC17 _ ?_; clear hC17 C17
  simp only [bL]
  refine dRun_chunk 1 fun C18 hC18 => ?_
  simp only [bL, ↓dRun, ↓dOp, ↓bO, bS, bA, bF, ↓reduceIte, Nat.reduceEqDiff, reduceCtorEq, undef, aLoad, ti3, getO, pack, Nat.reduceAdd, Nat.reduceLeDiff, List.length_map, Int.toNat_natCast, Int.natCast_nonneg, hrl, gM hx, intC, Int.ofNat_lt]
  refine hC18 _ ?_; clear hC18 C18
  simp only [bL]
  refine dRun_chunk 1 fun C19 hC19 => ?_
  simp only [bL, ↓dRun, ↓dOp, ↓bO, bS, bA, bF, ↓reduceIte, Nat.reduceEqDiff, reduceCtorEq, undef, aBin, List.length_map, Nat.reduceAdd, Nat.reduceLeDiff, Int.toNat_natCast, Int.natCast_nonneg, hrl, gM hx, intC, Int.ofNat_lt]
  refine hC19 _ ?_; clear hC19 C19
  simp only [bL]
  simp only [↓dRun, ↓dOp, bL, ↓bO, bS, bA, bF, ↓reduceIte, Nat.reduceEqDiff, reduceCtorEq, aBool, List.length_map, Nat.reduceAdd, Nat.reduceLeDiff, Int.toNat_natCast, Int.natCast_nonneg, hrl, gM hx, intC, Int.ofNat_lt]
  refine hK5 _ ?_; try clear hK5 K5
  simp only [bL, aops, bF]
  refine hK4 _ ?_; try clear hK4 K4
  refine AWp_cond rfl (fun hb17 => ?_) (fun hb17 => ?_)
  ·
   have hneg : x < 0 := by simpa using hb17
   refine AWp_seqK fun K20 hK20 => ?_
   refine AWp_region ?_
   simp only [↓bO, bS, bA, bF, ↓reduceIte, Nat.reduceEqDiff, reduceCtorEq, List.length_map, bL, Nat.reduceAdd, Nat.reduceLeDiff, Int.toNat_natCast, Int.natCast_nonneg, hrl, gM hx, intC, Int.ofNat_lt]
   refine hK20 _ ?_; try clear hK20 K20
   refine AWp_ret ?_
   try simp only [bF, retQ, aRes, tupOf, bS, bA]
   refine ⟨_, enumO 0 (cObs (S)), ⟨(S, (0 : Int)), ?_, rfl, rfl⟩, .v _ _, cUnd (by omega) _, ?_, ?_, by omega⟩
   · exact ⟨rfl, .inl ⟨hneg, rfl⟩⟩
   ·
    exact Le.refl _
   · first | (refine ⟨1, rfl, rfl⟩) | (refine ⟨0, rfl, rfl⟩) | (refine ⟨1, by simp only [cObs, enumO, List.drop_zero, List.drop_succ_cons, Nat.reduceAdd], rfl⟩) | (refine ⟨0, by simp only [cObs, enumO, List.drop_zero, List.drop_succ_cons, Nat.reduceAdd], rfl⟩)
  ·
   have hpos : 0 ≤ x := by simpa using hb17
   obtain ⟨g, hg⟩ : ∃ g, S.G.N[x.toNat]? = some g := ⟨_, List.getElem?_eq_getElem (by omega)⟩
   refine AWp_skip ?_
   try simp only [bF]
   refine hK3 _ ?_; try clear hK3 K3
   refine AWp_seqK fun K21 hK21 => ?_
   refine AWp_drawK 14 mixed (by kernel_rfl) fun K22 hK22 => ?_
   simp only [bL]
   refine dRun_chunk 1 fun C23 hC23 => ?_
   simp only [bL, ↓dRun, ↓dOp, ↓bO, bS, bA, bF, ↓reduceIte, Nat.reduceEqDiff, reduceCtorEq, aField, fo125_0, Nat.reduceAdd, List.length_map, Nat.reduceLeDiff, Int.toNat_natCast, Int.natCast_nonneg, hrl, gM hx, intC, Int.ofNat_lt]
   refine hC23 _ ?_; clear hC23 C23
   simp only [bL]
   refine dRun_chunk 1 fun C24 hC24 => ?_
   simp only [bL, ↓dRun, ↓dOp, ↓bO, bS, bA, bF, ↓reduceIte, Nat.reduceEqDiff, reduceCtorEq, aLoad, ti67, getO, pack, Nat.reduceAdd, Nat.reduceLeDiff, List.length_map, Int.toNat_natCast, Int.natCast_nonneg, hrl, gM hx, intC, Int.ofNat_lt]
   refine hC24 _ ?_; clear hC24 C24
   simp only [bL]
   refine dRun_chunk 1 fun C25 hC25 => ?_
   simp only [bL, ↓dRun, ↓dOp, ↓bO, bS, bA, bF, ↓reduceIte, Nat.reduceEqDiff, reduceCtorEq, List.length_map, Nat.reduceAdd, Nat.reduceLeDiff, Int.toNat_natCast, Int.natCast_nonneg, hrl, gM hx, intC, Int.ofNat_lt]
   refine hC25 _ ?_; clear hC25 C25
   simp only [bL]
   refine dRun_chunk 1 fun C26 hC26 => ?_
   simp only [bL, ↓dRun, ↓dOp, ↓bO, bS, bA, bF, ↓reduceIte, Nat.reduceEqDiff, reduceCtorEq, aField, fo119_1, Nat.reduceAdd, List.length_map, Nat.reduceLeDiff, Int.toNat_natCast, Int.natCast_nonneg, hrl, gM hx, intC, Int.ofNat_lt]
   refine hC26 _ ?_; clear hC26 C26
   simp only [bL]
   refine dRun_chunk 1 fun C27 hC27 => ?_
   simp only [bL, ↓dRun, ↓dOp, ↓bO, bS, bA, bF, ↓reduceIte, Nat.reduceEqDiff, reduceCtorEq, aLoad, ti25, getO, pack, Nat.reduceAdd, Nat.reduceLeDiff, List.length_map, Int.toNat_natCast, Int.natCast_nonneg, hrl, gM hx, intC, Int.ofNat_lt]
   refine hC27 _ ?_; clear hC27 C27
   simp only [bL]
   refine dRun_chunk 1 fun C28 hC28 => ?_
   simp only [bL, ↓dRun, ↓dOp, ↓bO, bS, bA, bF, ↓reduceIte, Nat.reduceEqDiff, reduceCtorEq, aField, fo125_0, Nat.reduceAdd, List.length_map, Nat.reduceLeDiff, Int.toNat_natCast, Int.natCast_nonneg, hrl, gM hx, intC, Int.ofNat_lt]
   refine hC28 _ ?_; clear hC28 C28
   simp only [bL]
   refine dRun_chunk 1 fun C29 hC29 => ?_
   simp only [bL, ↓dRun, ↓dOp, ↓bO, bS, bA, bF, ↓reduceIte, Nat.reduceEqDiff, reduceCtorEq, aLoad, ti67, getO, pack, Nat.reduceAdd, Nat.reduceLeDiff, List.length_map, Int.toNat_natCast, Int.natCast_nonneg, hrl, gM hx, intC, Int.ofNat_lt]
   refine hC29 _ ?_; clear hC29 C29
   simp only [bL]
   refine dRun_chunk 1 fun C30 hC30 => ?_
   simp only [bL, ↓dRun, ↓dOp, ↓bO, bS, bA, bF, ↓reduceIte, Nat.reduceEqDiff, reduceCtorEq, List.length_map, Nat.reduceAdd, Nat.reduceLeDiff, Int.toNat_natCast, Int.natCast_nonneg, hrl, gM hx, intC, Int.ofNat_lt]
   refine hC30 _ ?_; clear hC30 C30
   simp only [bL]
   refine dRun_chunk 1 fun C31 hC31 => ?_
   simp only [bL, ↓dRun, ↓dOp, ↓bO, bS, bA, bF, ↓reduceIte, Nat.reduceEqDiff, reduceCtorEq, aField, fo119_3, Nat.reduceAdd, List.length_map, Nat.reduceLeDiff, Int.toNat_natCast, Int.natCast_nonneg, hrl, gM hx, intC, Int.ofNat_lt]
   refine hC31 _ ?_; clear hC31 C31
   simp only [bL]
   refine dRun_chunk 1 fun C32 hC32 => ?_
   simp only [bL, ↓dRun, ↓dOp, ↓bO, bS, bA, bF, ↓reduceIte, Nat.reduceEqDiff, reduceCtorEq, aLoad, ti28, getO, pack, Nat.reduceAdd, Nat.reduceLeDiff, List.length_map, Int.toNat_natCast, Int.natCast_nonneg, hrl, gM hx, intC, Int.ofNat_lt]
   refine hC32 _ ?_; clear hC32 C32
   simp only [bL]
   refine dRun_chunk 1 fun C33 hC33 => ?_
   simp only [bL, ↓dRun, ↓dOp, ↓bO, bS, bA, bF, ↓reduceIte, Nat.reduceEqDiff, reduceCtorEq, aField, fo125_1, Nat.reduceAdd, List.length_map, Nat.reduceLeDiff, Int.toNat_natCast, Int.natCast_nonneg, hrl, gM hx, intC, Int.ofNat_lt]
   refine hC33 _ ?_; clear hC33 C33
   simp only [bL]
   refine dRun_chunk 1 fun C34 hC34 => ?_
   simp only [bL, ↓dRun, ↓dOp, ↓bO, bS, bA, bF, ↓reduceIte, Nat.reduceEqDiff, reduceCtorEq, aLoad, ti3, getO, pack, Nat.reduceAdd, Nat.reduceLeDiff, List.length_map, Int.toNat_natCast, Int.natCast_nonneg, hrl, gM hx, intC, Int.ofNat_lt]
   refine hC34 _ ?_; clear hC34 C34
   simp only [bL]
   refine dRun_chunk 1 fun C35 hC35 => ?_
   simp only [bL, ↓dRun, ↓dOp, ↓bO, bS, bA, bF, ↓reduceIte, Nat.reduceEqDiff, reduceCtorEq, getO, aIndexA, es28, Int.natCast_nonneg, Int.ofNat_lt, Int.toNat_natCast, List.length_map, Int.le_refl, Int.toNat_zero, Int.toNat_one, Int.reduceLE, Nat.reduceAdd, Nat.reduceLeDiff, hrl, gM hx, intC]
   refine hC35 _ ?_; clear hC35 C35
   simp only [bL]
   simp only [↓dRun, ↓dOp, bL, ↓bO, bS, bA, bF, ↓reduceIte, Nat.reduceEqDiff, reduceCtorEq, aLoad, ti3, getO, pack, Nat.reduceAdd, Nat.reduceLeDiff, List.length_map, Int.toNat_natCast, Int.natCast_nonneg, hrl, gM hx, intC, Int.ofNat_lt]
   refine hK22 _ ?_; try clear hK22 K22
   simp only [bL]
   refine aops_chunk 1 fun C36 hC36 => ?_
   simp only [bL, ↓bO, bS, bA, bF, ↓reduceIte, Nat.reduceEqDiff, reduceCtorEq, aCallV, List.length_map, Nat.reduceAdd, Nat.reduceLeDiff, Int.toNat_natCast, Int.natCast_nonneg, hrl, gM hx, intC, Int.ofNat_lt]
   refine GCalls.at (Kind_calls S.G x g hpos hg) (.cons (.v _) .nil) (.v _) (i := 1) (j := 2) (k := 3) rfl rfl rfl (by decide) (by decide) (by decide) (by first | omega | (simp only; omega)) (by first | omega | (simp only; omega)) (by first | omega | (simp only; omega)) ?_
   simp only [putO, Nat.reduceEqDiff, ↓reduceIte]
   try simp only [bS, bA, bF]
   refine hC36 _ ?_; clear hC36 C36
   simp only [bL]
   simp only [↓bO, bS, bA, bF, ↓reduceIte, Nat.reduceEqDiff, reduceCtorEq, List.length_map, bL, Nat.reduceAdd, Nat.reduceLeDiff, Int.toNat_natCast, Int.natCast_nonneg, hrl, gM hx, intC, Int.ofNat_lt]
   refine hK21 _ ?_; try clear hK21 K21
   refine AWp_ret ?_
   try simp only [bF, retQ, aRes, tupOf, bS, bA]
   refine ⟨_, enumO 0 (cObs (S)), ⟨(S, g.k), ?_, rfl, rfl⟩, .v _ _, cUnd (by omega) _, ?_, ?_, by omega⟩
   · exact ⟨rfl, .inr ⟨hpos, g, hg, rfl⟩⟩
   ·
    exact Le.refl _
   · first | (refine ⟨1, rfl, rfl⟩) | (refine ⟨0, rfl, rfl⟩) | (refine ⟨1, by simp only [cObs, enumO, List.drop_zero, List.drop_succ_cons, Nat.reduceAdd], rfl⟩) | (refine ⟨0, by simp only [cObs, enumO, List.drop_zero, List.drop_succ_cons, Nat.reduceAdd], rfl⟩)
theorem CKind_c (S : CS) (hF : FInv S.F) (hfl : S.F.up.length = S.W.length) (hw : ∀ w ∈ S.W, w = -1 ∨ (0 ≤ w ∧ w < (S.G.N.length : Int))) (hv : ∀ n k, vfind S.G.V n = some k → 0 ≤ k ∧ k < (S.F.up.length : Int)) (n : Int) : CCalls (σ := Int) 45 [.ptr 0 0, .v (.int .i64 n)] (S) (fun s => FSame S.F s.1.F ∧ s.1 = { S with F := s.1.F } ∧ (((S.clash = true ∨ vfind S.G.V n = none) ∧ s.2 = 0) ∨ (S.clash = false ∧ ∃ (i : Int) (r : Nat) (x : Int), vfind S.G.V n = some i ∧ Rt S.F.up i.toNat r ∧ S.W[r]? = some x ∧ ((x < 0 ∧ s.2 = 0) ∨ (0 ≤ x ∧ ∃ g, S.G.N[x.toNat]? = some g ∧ s.2 = g.k))))) (fun s => .v (.int .i64 s)) := by
 refine ACalls.clean (C := fun r os => ∃ s : CS × Int, (FSame S.F s.1.F ∧ s.1 = { S with F := s.1.F } ∧ (((S.clash = true ∨ vfind S.G.V n = none) ∧ s.2 = 0) ∨ (S.clash = false ∧ ∃ (i : Int) (r : Nat) (x : Int), vfind S.G.V n = some i ∧ Rt S.F.up i.toNat r ∧ S.W[r]? = some x ∧ ((x < 0 ∧ s.2 = 0) ∨ (0 ≤ x ∧ ∃ g, S.G.N[x.toNat]? = some g ∧ s.2 = g.k))))) ∧ r = (fun s : Int => .v (.int .i64 s)) s.2 ∧ os = enumO 0 (cObs s.1)) ?_
 refine ACalls_intro Try.func45 (by kernel_rfl) rfl (by rw [Try.ntmps45]; simp) (fun hm => ?_)
 simp only [Try.ntmps45, Try.results45, List.length_cons, List.length_nil, Nat.reduceAdd, Nat.reduceSub, List.replicate_succ, List.replicate_zero, List.cons_append, List.nil_append]
 simp only [cObs, enumO, Nat.reduceAdd]
 refine AWp_seqK fun K1 hK1 => ?_
 refine AWp_region ?_
 simp only [↓bO, bS, bA, bF, ↓reduceIte, Nat.reduceEqDiff, reduceCtorEq, List.length_map, bL, Nat.reduceAdd, Nat.reduceLeDiff, Int.toNat_natCast, Int.natCast_nonneg]
 refine hK1 _ ?_; try clear hK1 K1
 refine AWp_seqK fun K2 hK2 => ?_
 refine AWp_region ?_
 refine aops_chunk 1 fun C3 hC3 => ?_
 simp only [bL, ↓bO, bS, bA, bF, ↓reduceIte, Nat.reduceEqDiff, reduceCtorEq, List.length_map, Nat.reduceAdd, Nat.reduceLeDiff, Int.toNat_natCast, Int.natCast_nonneg]
 refine hC3 _ ?_; clear hC3 C3
 simp only [bL]
 refine aops_chunk 1 fun C4 hC4 => ?_
 simp only [bL, ↓bO, bS, bA, bF, ↓reduceIte, Nat.reduceEqDiff, reduceCtorEq, List.length_map, Nat.reduceAdd, Nat.reduceLeDiff, Int.toNat_natCast, Int.natCast_nonneg]
 refine hC4 _ ?_; clear hC4 C4
 simp only [bL]
 refine aops_chunk 1 fun C5 hC5 => ?_
 simp only [bL, ↓bO, bS, bA, bF, ↓reduceIte, Nat.reduceEqDiff, reduceCtorEq, aCallV, List.length_map, Nat.reduceAdd, Nat.reduceLeDiff, Int.toNat_natCast, Int.natCast_nonneg]
 refine CCalls.at (node_c S n) (.cons (.v _) .nil) (fun _ => .tup (.cons (.v _) (.cons (.v _) .nil))) (i0 := 0) (i1 := 1) (i2 := 2) (i3 := 3) (i4 := 4) (i5 := 5) (i6 := 6) (i7 := 7) (by decide) (by simp) ⟨rfl, rfl, rfl, rfl, rfl, rfl, rfl, rfl, trivial⟩ (fun Z9 u9 hZ9 => ?_)
 try dsimp only at hZ9
 simp only [cObsAt, List.zip_cons_cons, List.zip_nil_left, List.zip_nil_right, putsO, putO, Nat.reduceEqDiff, ↓reduceIte]
 obtain ⟨hZ, rfl⟩ := hZ9
 obtain rfl : S = Z9 := hZ.symm
 try simp only [bS, bA, bF]
 refine hC5 _ ?_; clear hC5 C5
 simp only [bL]
 refine aops_chunk 1 fun C6 hC6 => ?_
 simp only [bL, ↓bO, bS, bA, bF, ↓reduceIte, Nat.reduceEqDiff, reduceCtorEq, List.length_map, Nat.reduceAdd, Nat.reduceLeDiff, Int.toNat_natCast, Int.natCast_nonneg]
 refine hC6 _ ?_; clear hC6 C6
 simp only [bL]
 refine aops_chunk 1 fun C7 hC7 => ?_
 simp only [bL, ↓bO, bS, bA, bF, ↓reduceIte, Nat.reduceEqDiff, reduceCtorEq, aExtract, Nat.reduceAdd, Nat.reduceLT, Nat.zero_lt_succ, List.length_map, Nat.reduceLeDiff, Int.toNat_natCast, Int.natCast_nonneg]
 refine hC7 _ ?_; clear hC7 C7
 simp only [bL]
 refine aops_chunk 1 fun C8 hC8 => ?_
 simp only [bL, ↓bO, bS, bA, bF, ↓reduceIte, Nat.reduceEqDiff, reduceCtorEq, aExtract, Nat.reduceAdd, Nat.reduceLT, Nat.zero_lt_succ, List.length_map, Nat.reduceLeDiff, Int.toNat_natCast, Int.natCast_nonneg]
 refine hC8 _ ?_; clear hC8 C8
 simp only [bL]
 refine aops_chunk 1 fun C9 hC9 => ?_
 simp only [bL, ↓bO, bS, bA, bF, ↓reduceIte, Nat.reduceEqDiff, reduceCtorEq, List.length_map, Nat.reduceAdd, Nat.reduceLeDiff, Int.toNat_natCast, Int.natCast_nonneg]
 refine hC9 _ ?_; clear hC9 C9
 simp only [bL]
 simp only [↓bO, bS, bA, bF, ↓reduceIte, Nat.reduceEqDiff, reduceCtorEq, List.length_map, bL, Nat.reduceAdd, Nat.reduceLeDiff, Int.toNat_natCast, Int.natCast_nonneg]
 refine hK2 _ ?_; try clear hK2 K2
 refine AWp_seqK fun K10 hK10 => ?_
 refine AWp_seqK fun K11 hK11 => ?_
 refine AWp_region ?_
 refine aops_chunk 1 fun C12 hC12 => ?_
 simp only [bL, ↓bO, bS, bA, bF, ↓reduceIte, Nat.reduceEqDiff, reduceCtorEq, List.length_map, Nat.reduceAdd, Nat.reduceLeDiff, Int.toNat_natCast, Int.natCast_nonneg]
 refine hC12 _ ?_; clear hC12 C12
 simp only [bL]
 simp only [↓bO, bS, bA, bF, ↓reduceIte, Nat.reduceEqDiff, reduceCtorEq, aUn, List.length_map, bL, Nat.reduceAdd, Nat.reduceLeDiff, Int.toNat_natCast, Int.natCast_nonneg]
 refine hK11 _ ?_; try clear hK11 K11
 refine AWp_cond rfl (fun hb14 => ?_) (fun hb14 => ?_)
 ·
  have hno := nodeG_none (by simpa using hb14)
  refine AWp_seqK fun K13 hK13 => ?_
  refine AWp_region ?_
  simp only [↓bO, bS, bA, bF, ↓reduceIte, Nat.reduceEqDiff, reduceCtorEq, List.length_map, bL, Nat.reduceAdd, Nat.reduceLeDiff, Int.toNat_natCast, Int.natCast_nonneg]
  refine hK13 _ ?_; try clear hK13 K13
  refine AWp_ret ?_
  try simp only [bF, retQ, aRes, tupOf, bS, bA]
  refine ⟨_, enumO 0 (cObs (S)), ⟨(S, (0 : Int)), ?_, rfl, rfl⟩, .v _ _, cUnd (by omega) _, ?_, ?_, by omega⟩
  · exact ⟨FSame.refl hF, rfl, .inl ⟨hno, rfl⟩⟩
  ·
   exact Le.refl _
  · first | (refine ⟨0, rfl, rfl⟩) | (refine ⟨0, by simp only [cObs, enumO, List.drop_zero, List.drop_succ_cons, Nat.reduceAdd], rfl⟩)
 ·
  obtain ⟨hcs, i0, hvi, hi0⟩ := nodeG_some (S := S) (n := n) (by simpa using hb14)
  have hib := hv _ _ hvi
  obtain ⟨i, rfl⟩ : ∃ i : Nat, i0 = (i : Int) := ⟨i0.toNat, by omega⟩
  refine AWp_skip ?_
  try simp only [bF]
  refine hK10 _ ?_; try clear hK10 K10
  refine AWp_seqK fun K14 hK14 => ?_
  refine AWp_region ?_
  refine aops_chunk 1 fun C15 hC15 => ?_
  simp only [bL, ↓bO, bS, bA, bF, ↓reduceIte, Nat.reduceEqDiff, reduceCtorEq, List.length_map, Nat.reduceAdd, Nat.reduceLeDiff, Int.toNat_natCast, Int.natCast_nonneg, hi0]
  refine hC15 _ ?_; clear hC15 C15
  simp only [bL]
  refine aops_chunk 1 fun C16 hC16 => ?_
  simp only [bL, ↓bO, bS, bA, bF, ↓reduceIte, Nat.reduceEqDiff, reduceCtorEq, List.length_map, Nat.reduceAdd, Nat.reduceLeDiff, Int.toNat_natCast, Int.natCast_nonneg, hi0]
  refine hC16 _ ?_; clear hC16 C16
  simp only [bL]
  refine aops_chunk 1 fun C17 hC17 => ?_
  simp only [bL, ↓bO, bS, bA, bF, ↓reduceIte, Nat.reduceEqDiff, reduceCtorEq, List.length_map, Nat.reduceAdd, Nat.reduceLeDiff, Int.toNat_natCast, Int.natCast_nonneg, hi0]
  refine hC17 _ ?_; clear hC17 C17
  simp only [bL]
  refine aops_chunk 1 fun C18 hC18 => ?_
  simp only [bL, ↓bO, bS, bA, bF, ↓reduceIte, Nat.reduceEqDiff, reduceCtorEq, aCallV, List.length_map, Nat.reduceAdd, Nat.reduceLeDiff, Int.toNat_natCast, Int.natCast_nonneg, hi0]
  refine CCalls.at (root_c S hF i (by omega)) (.cons (.v _) .nil) (fun _ => .v _) (i0 := 0) (i1 := 1) (i2 := 2) (i3 := 3) (i4 := 4) (i5 := 5) (i6 := 6) (i7 := 7) (by decide) (by simp) ⟨rfl, rfl, rfl, rfl, rfl, rfl, rfl, rfl, trivial⟩ (fun S1 r hS1 => ?_)
  try dsimp only at hS1
  simp only [cObsAt, List.zip_cons_cons, List.zip_nil_left, List.zip_nil_right, putsO, putO, Nat.reduceEqDiff, ↓reduceIte]
  obtain ⟨hfs, hrt, hS1e⟩ := hS1
  have hrl := hrt.lt'
  have hrl2 := hrt.lt
  obtain ⟨x, hx⟩ : ∃ x, S.W[r]? = some x := ⟨_, List.getElem?_eq_getElem (by omega)⟩
  have hx1 : S1.W[r]? = some x := by rw [hS1e]; exact hx
  try simp only [bS, bA, bF]
  refine hC18 _ ?_; clear hC18 C18
  simp only [bL]
  refine aops_chunk 1 fun C19 hC19 => ?_
  simp only [bL, ↓bO, bS, bA, bF, ↓reduceIte, Nat.reduceEqDiff, reduceCtorEq, aBuild, zc125, pc125, aFill, splice, Nat.reduceAdd, Nat.reduceLeDiff, List.length_map, Int.toNat_natCast, Int.natCast_nonneg, hi0]
  refine hC19 _ ?_; clear hC19 C19
  simp only [bL]
  refine aops_chunk 1 fun C20 hC20 => ?_
  simp only [bL, ↓bO, bS, bA, bF, ↓reduceIte, Nat.reduceEqDiff, reduceCtorEq, aCallV, List.length_map, Nat.reduceAdd, Nat.reduceLeDiff, Int.toNat_natCast, Int.natCast_nonneg, hi0]
  refine ACalls.mono (show ACalls Try.prog 79 _ (enumO 0 (cObs S1)) 8 _ from PKind_c S1 (by rw [hS1e]; exact hw) r x hx1) ?_
  rintro z os' nx' ⟨⟨s9, ⟨hs9, hk9⟩, rfl, rfl⟩, rfl⟩
  obtain rfl : S1 = s9.1 := hs9.symm
  simp only [cObs, enumO, Nat.reduceAdd]
  try simp only [bS, bA, bF]
  refine hC20 _ ?_; clear hC20 C20
  simp only [bL]
  simp only [↓bO, bS, bA, bF, ↓reduceIte, Nat.reduceEqDiff, reduceCtorEq, List.length_map, bL, Nat.reduceAdd, Nat.reduceLeDiff, Int.toNat_natCast, Int.natCast_nonneg, hi0]
  refine hK14 _ ?_; try clear hK14 K14
  refine AWp_ret ?_
  try simp only [bF, retQ, aRes, tupOf, bS, bA]
  refine ⟨_, enumO 0 (cObs (s9.1)), ⟨(s9.1, s9.2), ?_, rfl, rfl⟩, .v _ _, cUnd (by omega) _, ?_, ?_, by omega⟩
  · exact ⟨hfs, hS1e, .inr ⟨hcs, _, r, x, hvi, hrt, hx, by rw [hS1e] at hk9; exact hk9⟩⟩
  ·
   exact Le.refl _
  · first | (refine ⟨0, rfl, rfl⟩) | (refine ⟨0, by simp only [cObs, enumO, List.drop_zero, List.drop_succ_cons, Nat.reduceAdd], rfl⟩)
end Go.Proofs.Ytohdoloalolpfaa
