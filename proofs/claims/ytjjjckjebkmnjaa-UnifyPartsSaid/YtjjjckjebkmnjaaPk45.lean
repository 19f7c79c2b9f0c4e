/- Texts of the abstract walk, of the contracts and of the plain laws, packed (part 45 of 47): Ur3 Ur5 Up2 UpL. Conditions: none. -/
import Derived.Test.YtjjjckjebkmnjaaPk44
namespace Go.Proofs.Ytjjjckjebkmnjaa
open Go Go.RowKit
set_option maxRecDepth 100000
set_option maxHeartbeats 4000000
set_option linter.unusedSimpArgs false
set_option linter.unusedVariables false
attribute [local irreducible] aops dRun
theorem sumP_mem : ∀ {l : List (Ty × Ty)} {e : Ty × Ty}, e ∈ l → e.1.cnt + e.2.cnt ≤ sumP l
  | x :: l, e, h => by
    simp only [sumP]
    rcases List.mem_cons.1 h with rfl | h
    · omega
    · have := sumP_mem h; omega
theorem Close_at (es : List EqT) (hsum : sumP (es.map EqT.p) ≤ 160) (hr : ∀ e ∈ (es.map EqT.p), (e.1.right && e.2.right) = true) {os : Os} {nx : Nat} {Q : AV → Os → Nat → Prop}
    (hq : ∀ c, ColF (eqF (es.map EqT.p)).1 (nat2 (eqF (es.map EqT.p)).2) c → (clB (eqF (es.map EqT.p)).1 c = true ↔ Clashes (es.map EqT.p)) → Q (.agg [.sl 4 ((eqF (es.map EqT.p)).1.map RNode.cells), .sl 1 (c.map intC)]) os nx) : ACalls Try.prog 16 [.sl 8 (es.map EqT.cells)] os nx Q := by
  obtain ⟨⟨G, hG⟩, hP⟩ := eqF_ok (es.map EqT.p) fun e he => by
    have h1 := hr e he
    have h2 := sumP_mem he
    simp only [Bool.and_eq_true] at h1
    exact ⟨h1.1, h1.2, by omega, by omega⟩
  have h := Close_c es _ _ rfl hsum hG.mok hP fun x hx => hG.parts8 hx
  refine ACalls.atE (σ := List Int) (C := fun c => ColF (eqF (es.map EqT.p)).1 (nat2 (eqF (es.map EqT.p)).2) c) (R := fun c => .agg [.sl 4 ((eqF (es.map EqT.p)).1.map RNode.cells), .sl 1 (c.map intC)]) (R' := fun c => .agg [.sl 4 ((eqF (es.map EqT.p)).1.map RNode.cells), .sl 1 (c.map intC)]) (obs := []) (obs' := []) (obs1 := fun _ => []) (obs1' := fun _ => []) [] h rfl (fun _ => rfl) (by simp) (by simp) ⟨.data (EqT.dataSl es), trivial⟩ (fun c => .data (RNode.oneData _ _)) trivial trivial (fun _ => trivial) (fun c hc => hq c hc (hc.clash (fun e he => ?_) hG.mok))
  simp only [nat2, List.mem_map] at he
  obtain ⟨p, hp, rfl⟩ := he
  have := hP p hp
  simp only
  omega
theorem Clash_pure (M : List RNode) (c : List Int) (hcl : c.length = M.length) (hMl : M.length ≤ 1048576) : APure Try.prog 18 [.agg [.sl 4 (M.map RNode.cells), .sl 1 (c.map intC)]] (.v (.bool (clB M c))) := by
  refine APure.mkL (.cons (RNode.oneData M c) .nil) (.v _) ?_
  refine ACalls_intro Try.func18 (by kernel_rfl) rfl (by rw [Try.ntmps18]; simp) (fun hm => ?_)
  simp only [Try.ntmps18, Try.results18, List.length_cons, List.length_nil, Nat.reduceAdd, Nat.reduceSub, List.replicate_succ, List.replicate_zero, List.cons_append, List.nil_append]
  refine AWp_seqK fun Y0 y0 => ?_
  refine AWp_region ?_
  refine aops_chunk 1 fun Q0 q0 => ?_
  simp only [↓bO, go_sem, seval]
  refine q0 _ ?_
  clear q0 Q0
  simp only [go_sem]
  simp only [↓bO, go_sem, seval]
  refine y0 _ ?_
  try clear y0 Y0
  refine AWp_seqK fun Y0 y0 => ?_
  refine AWp_seqK fun Y1 y1 => ?_
  refine AWp_region ?_
  simp only [↓bO, go_sem, seval]
  refine y1 _ ?_
  try clear y1 Y1
  refine AWp_block ?_
  refine AWp_loopM (σ := Nat) (mB 70 10) (fun s => s ≤ M.length ∧ NoCl M c s 0) (fun s => [(3, .v (.int .i64 (s : Int)))]) (fun s => []) (fun s => M.length - s) 0 (⟨Nat.zero_le _, NoCl.zero _ _⟩) ?_ (fun s hs => ?_)
  ·
   simp only [maskL, setsL, putsO, putO, mB, List.set_cons_zero, List.set_cons_succ, seval]
   exact Weak.mk (by simp only [go_sem, Le.refl, Le.any, Le.slNil, Int.natCast_add, Int.cast_ofNat_Int, Int.natCast_one]) (fun _ _ h => h) rfl rfl
  simp only [maskL, setsL, putsO, putO, mB, List.set_cons_zero, List.set_cons_succ, seval]
  refine AWp_seqK fun Y1 y1 => ?_
  refine AWp_seqK fun Y2 y2 => ?_
  refine AWp_region ?_
  iterate 4 (refine aops_chunk 1 fun Q0 q0 => ?_; simp only [↓bO, go_sem, seval]; refine q0 _ ?_; clear q0 Q0; simp only [go_sem])
  simp only [↓bO, go_sem, seval]
  refine y2 _ ?_
  try clear y2 Y2
  refine AWp_cond rfl (fun hb11 => ?_) (fun hb11 => ?_)
  ·
   have hki : s < M.length := by simpa using hb11
   obtain ⟨x, hxm⟩ : ∃ x, M[s]? = some x := ⟨_, List.getElem?_eq_getElem hki⟩
   obtain ⟨ci, hci⟩ : ∃ z, c[s]? = some z := ⟨_, List.getElem?_eq_getElem (by omega)⟩
   have hw1 : IntKind.i64.wrap ((s : Int) + 1) = (s : Int) + 1 := wrap_in (by omega) (by omega)
   refine AWp_skip ?_
   try simp only [thenQ, blockQ, noGotoQ]
   refine y1 _ ?_
   try clear y1 Y1
   refine AWp_seqK fun Y1 y1 => ?_
   refine AWp_block ?_
   refine AWp_seqK fun Y2 y2 => ?_
   refine AWp_region ?_
   simp only [↓bO, go_sem, seval, hki, hcl, gM hxm, gM hci, hw1, RNode.cells, Int.natCast_add, intC]
   refine y2 _ ?_
   try clear y2 Y2
   refine AWp_block ?_
   refine AWp_loopM (σ := Nat) (mB 70 26) (fun v => v ≤ s ∧ NoCl M c s v) (fun v => [(4, .v (.int .i64 (v : Int)))]) (fun v => []) (fun v => s - v) 0 (⟨Nat.zero_le _, hs.2⟩) ?_ (fun v hv => ?_)
   ·
    simp only [maskL, setsL, putsO, putO, mB, List.set_cons_zero, List.set_cons_succ, seval]
    exact Weak.mk (by simp only [go_sem, Le.refl, Le.any, Le.slNil, Int.natCast_add, Int.cast_ofNat_Int, Int.natCast_one]) (fun _ _ h => h) rfl rfl
   simp only [maskL, setsL, putsO, putO, mB, List.set_cons_zero, List.set_cons_succ, seval]
   refine AWp_seqK fun Y2 y2 => ?_
   refine AWp_seqK fun Y3 y3 => ?_
   refine AWp_region ?_
   iterate 2 (refine aops_chunk 1 fun Q0 q0 => ?_; simp only [↓bO, go_sem, seval, hki, hcl, gM hxm, gM hci, hw1, RNode.cells, Int.natCast_add, intC]; refine q0 _ ?_; clear q0 Q0; simp only [go_sem])
   simp only [↓bO, go_sem, seval, hki, hcl, gM hxm, gM hci, hw1, RNode.cells, Int.natCast_add, intC]
   refine y3 _ ?_
   try clear y3 Y3
   refine AWp_cond rfl (fun hb16 => ?_) (fun hb16 => ?_)
   ·
    have hkk : v < s := by simpa using hb16
    have hkM : v < M.length := by omega
    obtain ⟨y, hym⟩ : ∃ y, M[v]? = some y := ⟨_, List.getElem?_eq_getElem hkM⟩
    obtain ⟨ck, hck⟩ : ∃ z, c[v]? = some z := ⟨_, List.getElem?_eq_getElem (by omega)⟩
    have hw2 : IntKind.i64.wrap ((v : Int) + 1) = (v : Int) + 1 := wrap_in (by omega) (by omega)
    refine AWp_skip ?_
    try simp only [thenQ, blockQ, noGotoQ]
    refine y2 _ ?_
    try clear y2 Y2
    refine AWp_seqK fun Y2 y2 => ?_
    refine AWp_block ?_
    refine AWp_joinZ (mB 70 122) ([(5, .eptr x.cells), (6, .eptr y.cells)]) [(0, .cells 44 [.sl 4 (M.map RNode.cells), .sl 1 (c.map intC)])] 1 (True) ?_ (fun hC => ?_)
    ·
     refine HAny_start 14 rfl mixed ?_
     dsimp only
     refine HAny_takeK 0 rfl (by kernel_rfl) (by kernel_rfl) (by kernel_rfl) (fun _ _ h => h) fun Q0 q0 => ?_
     simp only [↓bO, go_sem, seval, aHead, isPE, isSE, hki, hcl, gM hxm, gM hci, hw1, RNode.cells, Int.natCast_add, intC, hkk, hkM, gM hym, gM hck, hw2]
     refine q0 _ ?_
     clear q0 Q0
     refine HAny_takeK 1 rfl (by kernel_rfl) (by kernel_rfl) (by kernel_rfl) (fun _ _ h => h) fun Q0 q0 => ?_
     simp only [↓bO, go_sem, seval, aHead, isPE, isSE, hki, hcl, gM hxm, gM hci, hw1, RNode.cells, Int.natCast_add, intC, hkk, hkM, gM hym, gM hck, hw2]
     refine q0 _ ?_
     clear q0 Q0
     refine HAny_takeK 2 rfl (by kernel_rfl) (by kernel_rfl) (by kernel_rfl) (fun _ _ h => h) fun Q0 q0 => ?_
     simp only [↓bO, go_sem, seval, aHead, isPE, isSE, hki, hcl, gM hxm, gM hci, hw1, RNode.cells, Int.natCast_add, intC, hkk, hkM, gM hym, gM hck, hw2]
     refine q0 _ ?_
     clear q0 Q0
     refine HAny_takeK 3 rfl (by kernel_rfl) (by kernel_rfl) (by kernel_rfl) (fun _ _ h => h) fun Q0 q0 => ?_
     simp only [↓bO, go_sem, seval, aHead, isPE, isSE, hki, hcl, gM hxm, gM hci, hw1, RNode.cells, Int.natCast_add, intC, hkk, hkM, gM hym, gM hck, hw2]
     refine q0 _ ?_
     clear q0 Q0
     refine HAny_takeK 4 rfl (by kernel_rfl) (by kernel_rfl) (by kernel_rfl) (fun _ _ h => h) fun Q0 q0 => ?_
     simp only [↓bO, go_sem, seval, aHead, isPE, isSE, hki, hcl, gM hxm, gM hci, hw1, RNode.cells, Int.natCast_add, intC, hkk, hkM, gM hym, gM hck, hw2]
     refine q0 _ ?_
     clear q0 Q0
     refine HAny_takeK 5 rfl (by kernel_rfl) (by kernel_rfl) (by kernel_rfl) (fun _ _ h => h) fun Q0 q0 => ?_
     simp only [↓bO, go_sem, seval, aHead, isPE, isSE, hki, hcl, gM hxm, gM hci, hw1, RNode.cells, Int.natCast_add, intC, hkk, hkM, gM hym, gM hck, hw2]
     refine q0 _ ?_
     clear q0 Q0
     refine HAny_takeK 6 rfl (by kernel_rfl) (by kernel_rfl) (by kernel_rfl) (fun _ _ h => h) fun Q0 q0 => ?_
     simp only [↓bO, go_sem, seval, aHead, isPE, isSE, hki, hcl, gM hxm, gM hci, hw1, RNode.cells, Int.natCast_add, intC, hkk, hkM, gM hym, gM hck, hw2]
     refine q0 _ ?_
     clear q0 Q0
     refine HAny_takeK 7 rfl (by kernel_rfl) (by kernel_rfl) (by kernel_rfl) (fun _ _ h => h) fun Q0 q0 => ?_
     simp only [↓bO, go_sem, seval, aHead, isPE, isSE, hki, hcl, gM hxm, gM hci, hw1, RNode.cells, Int.natCast_add, intC, hkk, hkM, gM hym, gM hck, hw2]
     refine q0 _ ?_
     clear q0 Q0
     refine HAny_takeK 8 rfl (by kernel_rfl) (by kernel_rfl) (by kernel_rfl) (fun _ _ h => h) fun Q0 q0 => ?_
     simp only [↓bO, go_sem, seval, aHead, isPE, isSE, hki, hcl, gM hxm, gM hci, hw1, RNode.cells, Int.natCast_add, intC, hkk, hkM, gM hym, gM hck, hw2]
     refine q0 _ ?_
     clear q0 Q0
     refine HAny_takeK 9 rfl (by kernel_rfl) (by kernel_rfl) (by kernel_rfl) (fun _ _ h => h) fun Q0 q0 => ?_
     simp only [↓bO, go_sem, seval, aHead, isPE, isSE, hki, hcl, gM hxm, gM hci, hw1, RNode.cells, Int.natCast_add, intC, hkk, hkM, gM hym, gM hck, hw2]
     refine q0 _ ?_
     clear q0 Q0
     refine HAny_rest ?_
     refine JAny_all2 (i := 10) (j := 11) (by kernel_rfl) ?_ ?_
     ·
      refine jAt_alloc rfl rfl rfl rfl (by simp) (by decide) fun Q0 q0 => ?_
      simp only [↓bO, go_sem, seval, hki, hcl, gM hxm, gM hci, hw1, RNode.cells, Int.natCast_add, intC, hkk, hkM, gM hym, gM hck, hw2]
      refine q0 _ ?_
      clear q0 Q0
      refine JAny_all1 (i := 11) (by kernel_rfl) ?_
      ·
       refine jAt_alloc rfl rfl rfl rfl (by simp) (by decide) fun Q0 q0 => ?_
       simp only [↓bO, go_sem, seval, hki, hcl, gM hxm, gM hci, hw1, RNode.cells, Int.natCast_add, intC, hkk, hkM, gM hym, gM hck, hw2]
       refine q0 _ ?_
       clear q0 Q0
       refine JAny_all1 (i := 12) (by kernel_rfl) ?_
       ·
        refine jAt_store rfl rfl rfl rfl (by decide) rfl fun Q0 q0 => ?_
        simp only [↓bO, go_sem, seval, hki, hcl, gM hxm, gM hci, hw1, RNode.cells, Int.natCast_add, intC, hkk, hkM, gM hym, gM hck, hw2]
        refine q0 _ ?_
        clear q0 Q0
        refine JAny_all1 (i := 13) (by kernel_rfl) ?_
        ·
         refine jAt_store rfl rfl rfl rfl (by decide) rfl fun Q0 q0 => ?_
         simp only [↓bO, go_sem, seval, hki, hcl, gM hxm, gM hci, hw1, RNode.cells, Int.natCast_add, intC, hkk, hkM, gM hym, gM hck, hw2]
         refine q0 _ ?_
         clear q0 Q0
         refine JAny_done (by kernel_rfl) ?_
         simp only [thenQ, blockQ, noGotoQ]
         try simp only [maskL, setsL, putsO, putO, mB, List.set_cons_zero, List.set_cons_succ, seval]
         first | refine ⟨trivial, ?_⟩ | skip
         refine Weak.freeze ?_ ⟨rfl, trivial⟩ (by first | omega | (simp only; omega)) (by first | omega | (simp only; omega)) ?_ ⟨by omega, ⟨Und.data (RNode.dataSl _), Und.data (dataInts _), trivial⟩, trivial⟩
         · repeat' first | trivial | exact .inr ⟨_, _, _, rfl, rfl, rfl, rfl⟩ | exact .inl (.refl _) | exact .inl (.any _) | (refine ⟨?_, ?_⟩)
         · repeat' first | exact trivial | exact .any _ | exact .ptr (by omega) | exact .v _ _ | exact Und.data (RNode.dataSl _) | exact Und.data (dataInts _) | exact Und.data (.eptr (RNode.data _)) | (refine ⟨?_, ?_⟩)
     ·
      refine jAt_alloc rfl rfl rfl rfl (by simp) (by decide) fun Q0 q0 => ?_
      simp only [↓bO, go_sem, seval, hki, hcl, gM hxm, gM hci, hw1, RNode.cells, Int.natCast_add, intC, hkk, hkM, gM hym, gM hck, hw2]
      refine q0 _ ?_
      clear q0 Q0
      refine JAny_all1 (i := 10) (by kernel_rfl) ?_
      ·
       refine jAt_alloc rfl rfl rfl rfl (by simp) (by decide) fun Q0 q0 => ?_
       simp only [↓bO, go_sem, seval, hki, hcl, gM hxm, gM hci, hw1, RNode.cells, Int.natCast_add, intC, hkk, hkM, gM hym, gM hck, hw2]
       refine q0 _ ?_
       clear q0 Q0
       refine JAny_all1 (i := 12) (by kernel_rfl) ?_
       ·
        refine jAt_store rfl rfl rfl rfl (by decide) rfl fun Q0 q0 => ?_
        simp only [↓bO, go_sem, seval, hki, hcl, gM hxm, gM hci, hw1, RNode.cells, Int.natCast_add, intC, hkk, hkM, gM hym, gM hck, hw2]
        refine q0 _ ?_
        clear q0 Q0
        refine JAny_all1 (i := 13) (by kernel_rfl) ?_
        ·
         refine jAt_store rfl rfl rfl rfl (by decide) rfl fun Q0 q0 => ?_
         simp only [↓bO, go_sem, seval, hki, hcl, gM hxm, gM hci, hw1, RNode.cells, Int.natCast_add, intC, hkk, hkM, gM hym, gM hck, hw2]
         refine q0 _ ?_
         clear q0 Q0
         refine JAny_done (by kernel_rfl) ?_
         simp only [thenQ, blockQ, noGotoQ]
         try simp only [maskL, setsL, putsO, putO, mB, List.set_cons_zero, List.set_cons_succ, seval]
         first | refine ⟨trivial, ?_⟩ | skip
         refine Weak.freeze ?_ ⟨rfl, trivial⟩ (by first | omega | (simp only; omega)) (by first | omega | (simp only; omega)) ?_ ⟨by omega, ⟨Und.data (RNode.dataSl _), Und.data (dataInts _), trivial⟩, trivial⟩
         · repeat' first | trivial | exact .inr ⟨_, _, _, rfl, rfl, rfl, rfl⟩ | exact .inl (.refl _) | exact .inl (.any _) | (refine ⟨?_, ?_⟩)
         · repeat' first | exact trivial | exact .any _ | exact .ptr (by omega) | exact .v _ _ | exact Und.data (RNode.dataSl _) | exact Und.data (dataInts _) | exact Und.data (.eptr (RNode.data _)) | (refine ⟨?_, ?_⟩)
    simp only [maskL, setsL, putsO, putO, mB, List.set_cons_zero, List.set_cons_succ, seval]
    refine AWp_seqK fun Y3 y3 => ?_
    refine AWp_drawK 41 mixed (by kernel_rfl) fun J0 j0 => ?_
    iterate 12 (simp only [go_sem]; refine dRun_chunk 1 fun Q0 q0 => ?_; simp only [↓dRun, ↓dOp, ↓bO, go_sem, seval, hki, hcl, gM hxm, gM hci, hw1, RNode.cells, Int.natCast_add, intC, hkk, hkM, gM hym, gM hck, hw2]; refine q0 _ ?_; clear q0 Q0)
    simp only [go_sem]
    refine dRun_case 40 rfl (fun hc40 => ?_) (fun hc40 => ?_)
    ·
     simp only [List.set_cons_zero, List.set_cons_succ]
     have hcc : ci = ck := by simpa using hc40
     iterate 6 (refine dRun_chunk 1 fun Q0 q0 => ?_; simp only [↓dRun, ↓dOp, ↓bO, go_sem, seval, hki, hcl, gM hxm, gM hci, hw1, RNode.cells, Int.natCast_add, intC, hkk, hkM, gM hym, gM hck, hw2]; refine q0 _ ?_; clear q0 Q0; simp only [go_sem])
     refine dRun_case 46 rfl (fun hc46 => ?_) (fun hc46 => ?_)
     ·
      simp only [List.set_cons_zero, List.set_cons_succ]
      have hk1 : x.t.k ≠ 1 := by simpa using hc46
      iterate 6 (refine dRun_chunk 1 fun Q0 q0 => ?_; simp only [↓dRun, ↓dOp, ↓bO, go_sem, seval, hki, hcl, gM hxm, gM hci, hw1, RNode.cells, Int.natCast_add, intC, hkk, hkM, gM hym, gM hck, hw2]; refine q0 _ ?_; clear q0 Q0; simp only [go_sem])
      refine dRun_case 52 rfl (fun hc52 => ?_) (fun hc52 => ?_)
      ·
       simp only [List.set_cons_zero, List.set_cons_succ]
       have hk2 : y.t.k ≠ 1 := by simpa using hc52
       iterate 8 (refine dRun_chunk 1 fun Q0 q0 => ?_; simp only [↓dRun, ↓dOp, ↓bO, go_sem, seval, hki, hcl, gM hxm, gM hci, hw1, RNode.cells, Int.natCast_add, intC, hkk, hkM, gM hym, gM hck, hw2]; refine q0 _ ?_; clear q0 Q0; simp only [go_sem])
       refine dRun_case 60 rfl (fun hc60 => ?_) (fun hc60 => ?_)
       ·
        simp only [List.set_cons_zero, List.set_cons_succ]
        have hkn : ¬ x.t.k = y.t.k := by simpa using hc60
        have hca : ClashAt (shR M) s v := (clashAt_iff hxm hym).2 ⟨hk1, hk2, .inl hkn⟩
        refine dRun_skips 7 (by kernel_rfl) ?_
        simp only [uN, bL, bS, bA]
        refine dRun_chunk 1 fun Q0 q0 => ?_
        simp only [↓dRun, ↓dOp, ↓bO, go_sem, seval, hki, hcl, gM hxm, gM hci, hw1, RNode.cells, Int.natCast_add, intC, hkk, hkM, gM hym, gM hck, hw2]
        refine q0 _ ?_
        clear q0 Q0
        simp only [go_sem]
        simp only [↓dRun, ↓dOp, ↓bO, go_sem, seval, hki, hcl, gM hxm, gM hci, hw1, RNode.cells, Int.natCast_add, intC, hkk, hkM, gM hym, gM hck, hw2]
        refine j0 _ ?_
        clear j0 J0
        simp only [bL, aops, thenQ, blockQ, noGotoQ]
        refine y3 _ ?_
        try clear y3 Y3
        refine AWp_cond (b := true) (by first | exact rfl | exact congrArg (fun b => AV.v (.bool b)) hb69) (fun _ => ?_) (fun h => (by cases h))
        refine AWp_seqK fun Y3 y3 => ?_
        refine AWp_region ?_
        simp only [↓bO, go_sem, seval, hki, hcl, gM hxm, gM hci, hw1, RNode.cells, Int.natCast_add, intC, hkk, hkM, gM hym, gM hck, hw2]
        refine y3 _ ?_
        try clear y3 Y3
        refine AWp_ret ?_
        try simp only [thenQ, blockQ, noGotoQ, retQ, aRes, tupOf, bS, bA]
        rw [clB_of hki hkk (by rw [hci, hck, hcc]) hca]; exact Le.refl _
       ·
        simp only [List.set_cons_zero, List.set_cons_succ]
        have hke : x.t.k = y.t.k := by simpa using hc60
        iterate 8 (refine dRun_chunk 1 fun Q0 q0 => ?_; simp only [↓dRun, ↓dOp, ↓bO, go_sem, seval, hki, hcl, gM hxm, gM hci, hw1, RNode.cells, Int.natCast_add, intC, hkk, hkM, gM hym, gM hck, hw2]; refine q0 _ ?_; clear q0 Q0; simp only [go_sem])
        simp only [↓dRun, ↓dOp, ↓bO, go_sem, seval, hki, hcl, gM hxm, gM hci, hw1, RNode.cells, Int.natCast_add, intC, hkk, hkM, gM hym, gM hck, hw2]
        refine j0 _ ?_
        clear j0 J0
        simp only [bL, aops, thenQ, blockQ, noGotoQ]
        refine y3 _ ?_
        try clear y3 Y3
        refine AWp_cond rfl (fun hb69 => ?_) (fun hb69 => ?_)
        ·
         have hln2 : ¬ x.parts.length = y.parts.length := by (have h9 := hb69; simp at h9; omega)
         have hca : ClashAt (shR M) s v := (clashAt_iff hxm hym).2 ⟨hk1, hk2, .inr hln2⟩
         refine AWp_seqK fun Y3 y3 => ?_
         refine AWp_region ?_
         simp only [↓bO, go_sem, seval, hki, hcl, gM hxm, gM hci, hw1, RNode.cells, Int.natCast_add, intC, hkk, hkM, gM hym, gM hck, hw2]
         refine y3 _ ?_
         try clear y3 Y3
         refine AWp_ret ?_
         try simp only [thenQ, blockQ, noGotoQ, retQ, aRes, tupOf, bS, bA]
         rw [clB_of hki hkk (by rw [hci, hck, hcc]) hca]; exact Le.refl _
        ·
         have hln2 : x.parts.length = y.parts.length := by (have h9 := hb69; simp at h9; omega)
         have hno : c[s]? = c[v]? → ¬ ClashAt (shR M) s v := by rw [clashAt_iff hxm hym]; exact fun _ h => h.2.2.elim (fun e => e hke) (fun e => e hln2)
         refine AWp_skip ?_
         try simp only [thenQ, blockQ, noGotoQ]
         refine y2 _ ?_
         try clear y2 Y2
         refine AWp_region ?_
         iterate 2 (refine aops_chunk 1 fun Q0 q0 => ?_; simp only [↓bO, go_sem, seval, hki, hcl, gM hxm, gM hci, hw1, RNode.cells, Int.natCast_add, intC, hkk, hkM, gM hym, gM hck, hw2]; refine q0 _ ?_; clear q0 Q0; simp only [go_sem])
         simp only [↓bO, go_sem, seval, hki, hcl, gM hxm, gM hci, hw1, RNode.cells, Int.natCast_add, intC, hkk, hkM, gM hym, gM hck, hw2]
         refine ⟨(v + 1), ⟨by omega, hv.2.next hno⟩, by omega, ?_⟩
         simp only [maskL, setsL, putsO, putO, mB, List.set_cons_zero, List.set_cons_succ, seval, Int.natCast_add, Int.natCast_one, Int.cast_ofNat_Int]
         refine Weak.sub ?_ ⟨rfl, trivial⟩ (by first | omega | (simp only; omega)) (by first | omega | (simp only; omega)) ?_ ?_
         · simp only [go_sem, Le.refl, Le.any]
         · repeat' first | exact trivial | exact .any _ | exact .ptr (by omega) | exact .v _ _ | exact Und.data (RNode.dataSl _) | exact Und.data (dataInts _) | exact Und.data (.eptr (RNode.data _)) | (refine ⟨?_, ?_⟩)
         · exact ⟨by omega, ⟨Und.data (RNode.dataSl _), Und.data (dataInts _), trivial⟩, trivial⟩
      ·
       simp only [List.set_cons_zero, List.set_cons_succ]
       have hk2 : y.t.k = 1 := by simpa using hc52
       have hno : c[s]? = c[v]? → ¬ ClashAt (shR M) s v := by rw [clashAt_iff hxm hym]; exact fun _ h => h.2.1 hk2
       refine dRun_skips 16 (by kernel_rfl) ?_
       simp only [uN, bL, bS, bA]
       simp only [↓dRun, ↓dOp, ↓bO, go_sem, seval, hki, hcl, gM hxm, gM hci, hw1, RNode.cells, Int.natCast_add, intC, hkk, hkM, gM hym, gM hck, hw2]
       refine j0 _ ?_
       clear j0 J0
       simp only [bL, aops, thenQ, blockQ, noGotoQ]
       refine y3 _ ?_
       try clear y3 Y3
       refine AWp_cond (b := false) (by first | exact rfl | exact congrArg (fun b => AV.v (.bool b)) hb69) (fun h => (by cases h)) (fun _ => ?_)
       refine AWp_skip ?_
       try simp only [thenQ, blockQ, noGotoQ]
       refine y2 _ ?_
       try clear y2 Y2
       refine AWp_region ?_
       iterate 2 (refine aops_chunk 1 fun Q0 q0 => ?_; simp only [↓bO, go_sem, seval, hki, hcl, gM hxm, gM hci, hw1, RNode.cells, Int.natCast_add, intC, hkk, hkM, gM hym, gM hck, hw2]; refine q0 _ ?_; clear q0 Q0; simp only [go_sem])
       simp only [↓bO, go_sem, seval, hki, hcl, gM hxm, gM hci, hw1, RNode.cells, Int.natCast_add, intC, hkk, hkM, gM hym, gM hck, hw2]
       refine ⟨(v + 1), ⟨by omega, hv.2.next hno⟩, by omega, ?_⟩
       simp only [maskL, setsL, putsO, putO, mB, List.set_cons_zero, List.set_cons_succ, seval, Int.natCast_add, Int.natCast_one, Int.cast_ofNat_Int]
       refine Weak.sub ?_ ⟨rfl, trivial⟩ (by first | omega | (simp only; omega)) (by first | omega | (simp only; omega)) ?_ ?_
       · simp only [go_sem, Le.refl, Le.any]
       · repeat' first | exact trivial | exact .any _ | exact .ptr (by omega) | exact .v _ _ | exact Und.data (RNode.dataSl _) | exact Und.data (dataInts _) | exact Und.data (.eptr (RNode.data _)) | (refine ⟨?_, ?_⟩)
       · exact ⟨by omega, ⟨Und.data (RNode.dataSl _), Und.data (dataInts _), trivial⟩, trivial⟩
     ·
      simp only [List.set_cons_zero, List.set_cons_succ]
      have hk1 : x.t.k = 1 := by simpa using hc46
      have hno : c[s]? = c[v]? → ¬ ClashAt (shR M) s v := by rw [clashAt_iff hxm hym]; exact fun _ h => h.1 hk1
      refine dRun_skips 4 (by kernel_rfl) ?_
      simp only [uN, bL, bS, bA]
      iterate 2 (refine dRun_chunk 1 fun Q0 q0 => ?_; simp only [↓dRun, ↓dOp, ↓bO, go_sem, seval, hki, hcl, gM hxm, gM hci, hw1, RNode.cells, Int.natCast_add, intC, hkk, hkM, gM hym, gM hck, hw2]; refine q0 _ ?_; clear q0 Q0; simp only [go_sem])
      refine dRun_skips 16 (by kernel_rfl) ?_
      simp only [uN, bL, bS, bA]
      simp only [↓dRun, ↓dOp, ↓bO, go_sem, seval, hki, hcl, gM hxm, gM hci, hw1, RNode.cells, Int.natCast_add, intC, hkk, hkM, gM hym, gM hck, hw2]
      refine j0 _ ?_
      clear j0 J0
      simp only [bL, aops, thenQ, blockQ, noGotoQ]
      refine y3 _ ?_
      try clear y3 Y3
      refine AWp_cond (b := false) (by first | exact rfl | exact congrArg (fun b => AV.v (.bool b)) hb69) (fun h => (by cases h)) (fun _ => ?_)
      refine AWp_skip ?_
      try simp only [thenQ, blockQ, noGotoQ]
      refine y2 _ ?_
      try clear y2 Y2
      refine AWp_region ?_
      iterate 2 (refine aops_chunk 1 fun Q0 q0 => ?_; simp only [↓bO, go_sem, seval, hki, hcl, gM hxm, gM hci, hw1, RNode.cells, Int.natCast_add, intC, hkk, hkM, gM hym, gM hck, hw2]; refine q0 _ ?_; clear q0 Q0; simp only [go_sem])
      simp only [↓bO, go_sem, seval, hki, hcl, gM hxm, gM hci, hw1, RNode.cells, Int.natCast_add, intC, hkk, hkM, gM hym, gM hck, hw2]
      refine ⟨(v + 1), ⟨by omega, hv.2.next hno⟩, by omega, ?_⟩
      simp only [maskL, setsL, putsO, putO, mB, List.set_cons_zero, List.set_cons_succ, seval, Int.natCast_add, Int.natCast_one, Int.cast_ofNat_Int]
      refine Weak.sub ?_ ⟨rfl, trivial⟩ (by first | omega | (simp only; omega)) (by first | omega | (simp only; omega)) ?_ ?_
      · simp only [go_sem, Le.refl, Le.any]
      · repeat' first | exact trivial | exact .any _ | exact .ptr (by omega) | exact .v _ _ | exact Und.data (RNode.dataSl _) | exact Und.data (dataInts _) | exact Und.data (.eptr (RNode.data _)) | (refine ⟨?_, ?_⟩)
      · exact ⟨by omega, ⟨Und.data (RNode.dataSl _), Und.data (dataInts _), trivial⟩, trivial⟩
    ·
     simp only [List.set_cons_zero, List.set_cons_succ]
     have hnc : ¬ ci = ck := by simpa using hc40
     have hno : c[s]? = c[v]? → ¬ ClashAt (shR M) s v := by rw [hci, hck]; exact fun e => absurd (Option.some.inj e) hnc
     refine dRun_skips 4 (by kernel_rfl) ?_
     simp only [uN, bL, bS, bA]
     iterate 2 (refine dRun_chunk 1 fun Q0 q0 => ?_; simp only [↓dRun, ↓dOp, ↓bO, go_sem, seval, hki, hcl, gM hxm, gM hci, hw1, RNode.cells, Int.natCast_add, intC, hkk, hkM, gM hym, gM hck, hw2]; refine q0 _ ?_; clear q0 Q0; simp only [go_sem])
     refine dRun_skips 4 (by kernel_rfl) ?_
     simp only [uN, bL, bS, bA]
     iterate 2 (refine dRun_chunk 1 fun Q0 q0 => ?_; simp only [↓dRun, ↓dOp, ↓bO, go_sem, seval, hki, hcl, gM hxm, gM hci, hw1, RNode.cells, Int.natCast_add, intC, hkk, hkM, gM hym, gM hck, hw2]; refine q0 _ ?_; clear q0 Q0; simp only [go_sem])
     refine dRun_skips 16 (by kernel_rfl) ?_
     simp only [uN, bL, bS, bA]
     simp only [↓dRun, ↓dOp, ↓bO, go_sem, seval, hki, hcl, gM hxm, gM hci, hw1, RNode.cells, Int.natCast_add, intC, hkk, hkM, gM hym, gM hck, hw2]
     refine j0 _ ?_
     clear j0 J0
     simp only [bL, aops, thenQ, blockQ, noGotoQ]
     refine y3 _ ?_
     try clear y3 Y3
     refine AWp_cond (b := false) (by first | exact rfl | exact congrArg (fun b => AV.v (.bool b)) hb69) (fun h => (by cases h)) (fun _ => ?_)
     refine AWp_skip ?_
     try simp only [thenQ, blockQ, noGotoQ]
     refine y2 _ ?_
     try clear y2 Y2
     refine AWp_region ?_
     iterate 2 (refine aops_chunk 1 fun Q0 q0 => ?_; simp only [↓bO, go_sem, seval, hki, hcl, gM hxm, gM hci, hw1, RNode.cells, Int.natCast_add, intC, hkk, hkM, gM hym, gM hck, hw2]; refine q0 _ ?_; clear q0 Q0; simp only [go_sem])
     simp only [↓bO, go_sem, seval, hki, hcl, gM hxm, gM hci, hw1, RNode.cells, Int.natCast_add, intC, hkk, hkM, gM hym, gM hck, hw2]
     refine ⟨(v + 1), ⟨by omega, hv.2.next hno⟩, by omega, ?_⟩
     simp only [maskL, setsL, putsO, putO, mB, List.set_cons_zero, List.set_cons_succ, seval, Int.natCast_add, Int.natCast_one, Int.cast_ofNat_Int]
     refine Weak.sub ?_ ⟨rfl, trivial⟩ (by first | omega | (simp only; omega)) (by first | omega | (simp only; omega)) ?_ ?_
     · simp only [go_sem, Le.refl, Le.any]
     · repeat' first | exact trivial | exact .any _ | exact .ptr (by omega) | exact .v _ _ | exact Und.data (RNode.dataSl _) | exact Und.data (dataInts _) | exact Und.data (.eptr (RNode.data _)) | (refine ⟨?_, ?_⟩)
     · exact ⟨by omega, ⟨Und.data (RNode.dataSl _), Und.data (dataInts _), trivial⟩, trivial⟩
   ·
    have hkv : v = s := by have h9 := hb16; simp at h9; have := hv.1; omega
    refine AWp_exit ?_
    simp only [thenQ, blockQ, noGotoQ, bA, Nat.reduceEqDiff, ↓reduceIte]
    refine y1 _ ?_
    try clear y1 Y1
    refine AWp_region ?_
    iterate 2 (refine aops_chunk 1 fun Q0 q0 => ?_; simp only [↓bO, go_sem, seval, hki, hcl, gM hxm, gM hci, hw1, RNode.cells, Int.natCast_add, intC]; refine q0 _ ?_; clear q0 Q0; simp only [go_sem])
    simp only [↓bO, go_sem, seval, hki, hcl, gM hxm, gM hci, hw1, RNode.cells, Int.natCast_add, intC]
    refine ⟨(s + 1), ⟨by omega, (hkv ▸ hv.2).row⟩, by omega, ?_⟩
    simp only [maskL, setsL, putsO, putO, mB, List.set_cons_zero, List.set_cons_succ, seval, hki, hcl, gM hxm, gM hci, hw1, RNode.cells, Int.natCast_add, Int.natCast_one, Int.cast_ofNat_Int, intC]
    exact Weak.mk (by simp only [go_sem, Le.refl, Le.any, Le.slNil, Int.natCast_add, Int.cast_ofNat_Int, Int.natCast_one]) (fun _ _ h => h) rfl rfl
  ·
   have hks : s = M.length := by have h9 := hb11; simp at h9; have := hs.1; omega
   refine AWp_exit ?_
   simp only [thenQ, blockQ, noGotoQ, bA, Nat.reduceEqDiff, ↓reduceIte]
   refine y0 _ ?_
   try clear y0 Y0
   refine AWp_seqK fun Y0 y0 => ?_
   refine AWp_region ?_
   simp only [↓bO, go_sem, seval]
   refine y0 _ ?_
   try clear y0 Y0
   refine AWp_ret ?_
   try simp only [thenQ, blockQ, noGotoQ, retQ, aRes, tupOf, bS, bA]
   rw [(hks ▸ hs.2 : NoCl M c M.length 0).all]; exact Le.refl _
end Go.Proofs.Ytjjjckjebkmnjaa
namespace Go.Proofs.Ytjjjckjebkmnjaa
open Go Go.RowKit
set_option maxRecDepth 100000
set_option maxHeartbeats 4000000
set_option linter.unusedSimpArgs false
set_option linter.unusedVariables false
attribute [local irreducible] aops dRun
theorem no_step {P : Nat → Bool} {s : Nat} (h : ∀ j, j < s → P j = false) (hs : P s = false) : ∀ j, j < s + 1 → P j = false := fun j hj => by
  rcases Nat.lt_or_ge j s with h1 | h1
  · exact h j h1
  · have : j = s := by omega
    exact this ▸ hs
theorem Whole_pure (M : List RNode) (c : List Int) (i : Nat) (hi : i < M.length) (hcl : c.length = M.length) (hMl : M.length ≤ 1048576) : APure Try.prog 31 [.agg [.sl 4 (M.map RNode.cells), .sl 1 (c.map intC)], .v (.int .i64 (i : Int))] (.v (.int .i64 (wholeI M c i))) := by
  refine APure.mkL (.cons (RNode.oneData M c) (.cons (.v _) .nil)) (.v _) ?_
  refine ACalls_intro Try.func31 (by kernel_rfl) rfl (by rw [Try.ntmps31]; simp) (fun hm => ?_)
  simp only [Try.ntmps31, Try.results31, List.length_cons, List.length_nil, Nat.reduceAdd, Nat.reduceSub, List.replicate_succ, List.replicate_zero, List.cons_append, List.nil_append]
  obtain ⟨z, hzc⟩ : ∃ z, c[i]? = some z := ⟨_, List.getElem?_eq_getElem (by omega)⟩
  refine AWp_seqK fun Y0 y0 => ?_
  refine AWp_region ?_
  refine aops_chunk 1 fun Q0 q0 => ?_
  simp only [↓bO, go_sem, seval]
  refine q0 _ ?_
  clear q0 Q0
  simp only [go_sem]
  simp only [↓bO, go_sem, seval]
  refine y0 _ ?_
  try clear y0 Y0
  refine AWp_seqK fun Y0 y0 => ?_
  refine AWp_seqK fun Y1 y1 => ?_
  refine AWp_region ?_
  simp only [↓bO, go_sem, seval]
  refine y1 _ ?_
  try clear y1 Y1
  refine AWp_block ?_
  refine AWp_loopM (σ := Nat) (mB 35 38) (fun s => s ≤ M.length ∧ ∀ j, j < s → isWhole M c i j = false) (fun s => [(5, .v (.int .i64 (s : Int)))]) (fun s => []) (fun s => M.length - s) 0 (⟨Nat.zero_le _, fun j hj => by omega⟩) ?_ (fun s hs => ?_)
  ·
   simp only [maskL, setsL, putsO, putO, mB, List.set_cons_zero, List.set_cons_succ, seval]
   exact Weak.mk (by simp only [go_sem, Le.refl, Le.any, Le.slNil, Int.natCast_add, Int.cast_ofNat_Int, Int.natCast_one]) (fun _ _ h => h) rfl rfl
  simp only [maskL, setsL, putsO, putO, mB, List.set_cons_zero, List.set_cons_succ, seval]
  refine AWp_seqK fun Y1 y1 => ?_
  refine AWp_seqK fun Y2 y2 => ?_
  refine AWp_region ?_
  iterate 4 (refine aops_chunk 1 fun Q0 q0 => ?_; simp only [↓bO, go_sem, seval]; refine q0 _ ?_; clear q0 Q0; simp only [go_sem])
  simp only [↓bO, go_sem, seval]
  refine y2 _ ?_
  try clear y2 Y2
  refine AWp_cond rfl (fun hb10 => ?_) (fun hb10 => ?_)
  ·
   have hki : s < M.length := by simpa using hb10
   obtain ⟨x, hxm⟩ : ∃ x, M[s]? = some x := ⟨_, List.getElem?_eq_getElem hki⟩
   obtain ⟨y, hyc⟩ : ∃ z, c[s]? = some z := ⟨_, List.getElem?_eq_getElem (by omega)⟩
   have hw1 : IntKind.i64.wrap ((s : Int) + 1) = (s : Int) + 1 := wrap_in (by omega) (by omega)
   have hwat := isWhole_at hxm hyc hzc
   refine AWp_skip ?_
   try simp only [thenQ, blockQ, noGotoQ]
   refine y1 _ ?_
   try clear y1 Y1
   refine AWp_seqK fun Y1 y1 => ?_
   refine AWp_block ?_
   refine AWp_seqK fun Y2 y2 => ?_
   refine AWp_drawK 21 mixed (by kernel_rfl) fun J0 j0 => ?_
   iterate 12 (simp only [go_sem]; refine dRun_chunk 1 fun Q0 q0 => ?_; simp only [↓dRun, ↓dOp, ↓bO, go_sem, seval, hki, hi, hcl, gM hxm, gM hyc, gM hzc, hw1, RNode.cells, Int.natCast_add, intC]; refine q0 _ ?_; clear q0 Q0)
   simp only [go_sem]
   refine dRun_case 24 rfl (fun hc24 => ?_) (fun hc24 => ?_)
   ·
    simp only [List.set_cons_zero, List.set_cons_succ]
    have hcc : y = z := by simpa using hc24
    iterate 8 (refine dRun_chunk 1 fun Q0 q0 => ?_; simp only [↓dRun, ↓dOp, ↓bO, go_sem, seval, hki, hi, hcl, gM hxm, gM hyc, gM hzc, hw1, RNode.cells, Int.natCast_add, intC]; refine q0 _ ?_; clear q0 Q0; simp only [go_sem])
    simp only [↓dRun, ↓dOp, ↓bO, go_sem, seval, hki, hi, hcl, gM hxm, gM hyc, gM hzc, hw1, RNode.cells, Int.natCast_add, intC]
    refine j0 _ ?_
    clear j0 J0
    simp only [bL, aops, thenQ, blockQ, noGotoQ]
    refine y2 _ ?_
    try clear y2 Y2
    refine AWp_cond rfl (fun hb33 => ?_) (fun hb33 => ?_)
    ·
     have hk1 : ¬ x.t.k = 1 := by simpa using hb33
     have hyes : isWhole M c i s = true := by rw [hwat, decide_eq_true hcc, show decide (x.t.k ≠ 1) = true from decide_eq_true hk1]; rfl
     have hres := wholeI_found hki hyes hs.2
     refine AWp_seqK fun Y2 y2 => ?_
     refine AWp_region ?_
     refine aops_chunk 1 fun Q0 q0 => ?_
     simp only [↓bO, go_sem, seval, hki, hi, hcl, gM hxm, gM hyc, gM hzc, hw1, RNode.cells, Int.natCast_add, intC]
     refine q0 _ ?_
     clear q0 Q0
     simp only [go_sem]
     simp only [↓bO, go_sem, seval, hki, hi, hcl, gM hxm, gM hyc, gM hzc, hw1, RNode.cells, Int.natCast_add, intC]
     refine y2 _ ?_
     try clear y2 Y2
     refine AWp_ret ?_
     try simp only [thenQ, blockQ, noGotoQ, retQ, aRes, tupOf, bS, bA]
     rw [hres]; exact Le.refl _
    ·
     have hk1 : x.t.k = 1 := by simpa using hb33
     have hno : isWhole M c i s = false := by rw [hwat, show decide (x.t.k ≠ 1) = false from decide_eq_false (fun h => h hk1), Bool.and_false]
     refine AWp_skip ?_
     try simp only [thenQ, blockQ, noGotoQ]
     refine y1 _ ?_
     try clear y1 Y1
     refine AWp_region ?_
     iterate 2 (refine aops_chunk 1 fun Q0 q0 => ?_; simp only [↓bO, go_sem, seval, hki, hi, hcl, gM hxm, gM hyc, gM hzc, hw1, RNode.cells, Int.natCast_add, intC]; refine q0 _ ?_; clear q0 Q0; simp only [go_sem])
     simp only [↓bO, go_sem, seval, hki, hi, hcl, gM hxm, gM hyc, gM hzc, hw1, RNode.cells, Int.natCast_add, intC]
     refine ⟨(s + 1), ⟨by omega, no_step hs.2 hno⟩, by omega, ?_⟩
     simp only [maskL, setsL, putsO, putO, mB, List.set_cons_zero, List.set_cons_succ, seval, hki, hi, hcl, gM hxm, gM hyc, gM hzc, hw1, RNode.cells, Int.natCast_add, Int.natCast_one, Int.cast_ofNat_Int, intC]
     exact Weak.mk (by simp only [go_sem, Le.refl, Le.any, Le.slNil, Int.natCast_add, Int.cast_ofNat_Int, Int.natCast_one]) (fun _ _ h => h) rfl rfl
   ·
    simp only [List.set_cons_zero, List.set_cons_succ]
    have hnc : ¬ y = z := by simpa using hc24
    have hno : isWhole M c i s = false := by rw [hwat, decide_eq_false hnc, Bool.false_and]
    iterate 8 (refine dRun_chunk 1 fun Q0 q0 => ?_; simp only [↓dRun, ↓dOp, ↓bO, go_sem, seval, hki, hi, hcl, gM hxm, gM hyc, gM hzc, hw1, RNode.cells, Int.natCast_add, intC]; refine q0 _ ?_; clear q0 Q0; simp only [go_sem])
    simp only [↓dRun, ↓dOp, ↓bO, go_sem, seval, hki, hi, hcl, gM hxm, gM hyc, gM hzc, hw1, RNode.cells, Int.natCast_add, intC]
    refine j0 _ ?_
    clear j0 J0
    simp only [bL, aops, thenQ, blockQ, noGotoQ]
    refine y2 _ ?_
    try clear y2 Y2
    refine AWp_cond (b := false) (by first | exact rfl | exact congrArg (fun b => AV.v (.bool b)) hb33) (fun h => (by cases h)) (fun _ => ?_)
    refine AWp_skip ?_
    try simp only [thenQ, blockQ, noGotoQ]
    refine y1 _ ?_
    try clear y1 Y1
    refine AWp_region ?_
    iterate 2 (refine aops_chunk 1 fun Q0 q0 => ?_; simp only [↓bO, go_sem, seval, hki, hi, hcl, gM hxm, gM hyc, gM hzc, hw1, RNode.cells, Int.natCast_add, intC]; refine q0 _ ?_; clear q0 Q0; simp only [go_sem])
    simp only [↓bO, go_sem, seval, hki, hi, hcl, gM hxm, gM hyc, gM hzc, hw1, RNode.cells, Int.natCast_add, intC]
    refine ⟨(s + 1), ⟨by omega, no_step hs.2 hno⟩, by omega, ?_⟩
    simp only [maskL, setsL, putsO, putO, mB, List.set_cons_zero, List.set_cons_succ, seval, hki, hi, hcl, gM hxm, gM hyc, gM hzc, hw1, RNode.cells, Int.natCast_add, Int.natCast_one, Int.cast_ofNat_Int, intC]
    exact Weak.mk (by simp only [go_sem, Le.refl, Le.any, Le.slNil, Int.natCast_add, Int.cast_ofNat_Int, Int.natCast_one]) (fun _ _ h => h) rfl rfl
  ·
   have hks : s = M.length := by have h9 := hb10; simp at h9; have := hs.1; omega
   have hres := wholeI_no (m := M) (c := c) (i := i) (hks ▸ hs.2)
   refine AWp_exit ?_
   simp only [thenQ, blockQ, noGotoQ, bA, Nat.reduceEqDiff, ↓reduceIte]
   refine y0 _ ?_
   try clear y0 Y0
   refine AWp_seqK fun Y0 y0 => ?_
   refine AWp_region ?_
   simp only [↓bO, go_sem, seval]
   refine y0 _ ?_
   try clear y0 Y0
   refine AWp_ret ?_
   try simp only [thenQ, blockQ, noGotoQ, retQ, aRes, tupOf, bS, bA]
   rw [hres]; exact Le.refl _
theorem RKind_pure (M : List RNode) (c : List Int) (i : Nat) (hi : i < M.length) (hcl : c.length = M.length) (hMl : M.length ≤ 1048576) : APure Try.prog 29 [.agg [.sl 4 (M.map RNode.cells), .sl 1 (c.map intC)], .v (.int .i64 (i : Int))] (.v (.int .i64 (kindN M c i))) := by
  refine APure.mkL (.cons (RNode.oneData M c) (.cons (.v _) .nil)) (.v _) ?_
  refine ACalls_intro Try.func29 (by kernel_rfl) rfl (by rw [Try.ntmps29]; simp) (fun hm => ?_)
  simp only [Try.ntmps29, Try.results29, List.length_cons, List.length_nil, Nat.reduceAdd, Nat.reduceSub, List.replicate_succ, List.replicate_zero, List.cons_append, List.nil_append]
  refine AWp_seqK fun Y0 y0 => ?_
  refine AWp_region ?_
  refine aops_chunk 1 fun Q0 q0 => ?_
  simp only [↓bO, go_sem, seval]
  refine q0 _ ?_
  clear q0 Q0
  simp only [go_sem]
  simp only [↓bO, go_sem, seval]
  refine y0 _ ?_
  try clear y0 Y0
  refine AWp_seqK fun Y0 y0 => ?_
  refine AWp_seqK fun Y1 y1 => ?_
  refine AWp_region ?_
  iterate 2 (refine aops_chunk 1 fun Q0 q0 => ?_; simp only [↓bO, go_sem, seval]; refine q0 _ ?_; clear q0 Q0; simp only [go_sem])
  refine aops_chunk 1 fun Q0 q0 => ?_
  simp only [↓bO, go_sem, seval]
  refine APure.call (Whole_pure M c i hi hcl hMl) ?_
  try simp only [bS, bA, thenQ, blockQ, noGotoQ]
  refine q0 _ ?_
  clear q0 Q0
  simp only [go_sem]
  simp only [↓bO, go_sem, seval]
  refine y1 _ ?_
  try clear y1 Y1
  refine AWp_seqK fun Y1 y1 => ?_
  refine AWp_region ?_
  refine aops_chunk 1 fun Q0 q0 => ?_
  simp only [↓bO, go_sem, seval]
  refine q0 _ ?_
  clear q0 Q0
  simp only [go_sem]
  simp only [↓bO, go_sem, seval]
  refine y1 _ ?_
  try clear y1 Y1
  refine AWp_cond rfl (fun hb10 => ?_) (fun hb10 => ?_)
  ·
   have hw0 : 0 ≤ wholeI M c i := by simpa using hb10
   obtain ⟨k, hk1, hk2, hk3⟩ : ∃ k : Nat, wholeI M c i = (k : Int) ∧ k < M.length ∧ isWhole M c i k = true := by (rcases wholeI_spec M c i with h9 | h9; exact absurd h9.1 (by omega); exact h9)
   obtain ⟨x, hxm⟩ : ∃ x, M[k]? = some x := ⟨_, List.getElem?_eq_getElem hk2⟩
   have hres : kindN M c i = x.t.k := by rw [kindN, if_pos hw0, hk1, Int.toNat_natCast, hxm]; rfl
   refine AWp_seqK fun Y1 y1 => ?_
   refine AWp_region ?_
   iterate 7 (refine aops_chunk 1 fun Q0 q0 => ?_; simp only [↓bO, go_sem, seval, hk1, hk2, gM hxm, RNode.cells]; refine q0 _ ?_; clear q0 Q0; simp only [go_sem])
   simp only [↓bO, go_sem, seval, hk1, hk2, gM hxm, RNode.cells]
   refine y1 _ ?_
   try clear y1 Y1
   refine AWp_ret ?_
   try simp only [thenQ, blockQ, noGotoQ, retQ, aRes, tupOf, bS, bA]
   rw [hres]; exact Le.refl _
  ·
   have hw0 : ¬ 0 ≤ wholeI M c i := by simpa using hb10
   have hres : kindN M c i = 0 := by rw [kindN, if_neg hw0]
   refine AWp_skip ?_
   try simp only [thenQ, blockQ, noGotoQ]
   refine y0 _ ?_
   try clear y0 Y0
   refine AWp_seqK fun Y0 y0 => ?_
   refine AWp_region ?_
   simp only [↓bO, go_sem, seval]
   refine y0 _ ?_
   try clear y0 Y0
   refine AWp_ret ?_
   try simp only [thenQ, blockQ, noGotoQ, retQ, aRes, tupOf, bS, bA]
   rw [hres]; exact Le.refl _
theorem RCls_pure (M : List RNode) (c : List Int) (i : Nat) (hi : i < M.length) (hcl : c.length = M.length) (hMl : M.length ≤ 1048576) : APure Try.prog 30 [.agg [.sl 4 (M.map RNode.cells), .sl 1 (c.map intC)], .v (.int .i64 (i : Int))] (.sl 1 ((clsN M c i (varsI M)).map intC)) := by
  refine APure.mkL (.cons (RNode.oneData M c) (.cons (.v _) .nil)) (dataInts _) ?_
  refine ACalls_intro Try.func30 (by kernel_rfl) rfl (by rw [Try.ntmps30]; simp) (fun hm => ?_)
  simp only [Try.ntmps30, Try.results30, List.length_cons, List.length_nil, Nat.reduceAdd, Nat.reduceSub, List.replicate_succ, List.replicate_zero, List.cons_append, List.nil_append]
  obtain ⟨z, hzc⟩ : ∃ z, c[i]? = some z := ⟨_, List.getElem?_eq_getElem (by omega)⟩
  have hVl : (varsI M).length ≤ 1048576 := by (rw [varsI_eq, List.length_mergeSort]; unfold vns; rw [List.length_map]; exact Nat.le_trans (List.length_filter_le _ _) hMl)
  refine AWp_seqK fun Y0 y0 => ?_
  refine AWp_region ?_
  refine aops_chunk 1 fun Q0 q0 => ?_
  simp only [↓bO, go_sem, seval]
  refine q0 _ ?_
  clear q0 Q0
  simp only [go_sem]
  iterate 2 (simp only [↓bO, go_sem, seval]; refine y0 _ ?_; (try clear y0 Y0); refine AWp_seqK fun Y0 y0 => ?_; refine AWp_region ?_)
  iterate 2 (refine aops_chunk 1 fun Q0 q0 => ?_; simp only [↓bO, go_sem, seval]; refine q0 _ ?_; clear q0 Q0; simp only [go_sem])
  refine aops_chunk 1 fun Q0 q0 => ?_
  simp only [↓bO, go_sem, seval]
  refine APure.call (RGVars_pure M hMl) ?_
  try simp only [bS, bA, thenQ, blockQ, noGotoQ]
  refine q0 _ ?_
  clear q0 Q0
  simp only [go_sem]
  simp only [↓bO, go_sem, seval]
  refine y0 _ ?_
  try clear y0 Y0
  refine AWp_seqK fun Y0 y0 => ?_
  obtain ⟨L, hL⟩ : ∃ L, L = varsI M := ⟨_, rfl⟩
  rw [← hL]
  rw [← hL] at hVl
  refine AWp_seqK fun Y1 y1 => ?_
  refine AWp_region ?_
  simp only [↓bO, go_sem, seval]
  refine y1 _ ?_
  try clear y1 Y1
  refine AWp_block ?_
  refine AWp_weak (Weak.tokSlot 5 3 1 rfl) ?_
  simp only [List.set_cons_zero, List.set_cons_succ]
  refine AWp_loopM (σ := Nat) (mB 42 230) (fun s => s ≤ L.length) (fun s => [(5, .osl 1 1 ((clsN M c i (L.take s)).map intC)), (7, .v (.int .i64 (s : Int)))]) (fun s => [(1, .tok 3 1 (clsN M c i (L.take s)).length)]) (fun s => L.length - s) 0 (Nat.zero_le _) ?_ (fun s hs => ?_)
  ·
   simp only [maskL, setsL, putsO, putO, mB, List.set_cons_zero, List.set_cons_succ, seval, bL, clsN, List.filter_nil]
   exact Weak.mk (by simp only [go_sem, Le.refl, Le.any, Le.slNil, Int.natCast_add, Int.cast_ofNat_Int, Int.natCast_one]) (fun _ _ h => h) rfl rfl
  simp only [maskL, setsL, putsO, putO, mB, List.set_cons_zero, List.set_cons_succ, seval]
  refine AWp_seqK fun Y1 y1 => ?_
  refine AWp_seqK fun Y2 y2 => ?_
  refine AWp_region ?_
  iterate 3 (refine aops_chunk 1 fun Q0 q0 => ?_; simp only [↓bO, go_sem, seval]; refine q0 _ ?_; clear q0 Q0; simp only [go_sem])
  simp only [↓bO, go_sem, seval]
  refine y2 _ ?_
  try clear y2 Y2
  refine AWp_cond rfl (fun hb14 => ?_) (fun hb14 => ?_)
  ·
   have hk : s < L.length := by simpa using hb14
   obtain ⟨w, he⟩ : ∃ w, L[s]? = some w := ⟨_, List.getElem?_eq_getElem hk⟩
   obtain ⟨q, hq1, hq2⟩ := var_idx (m := M) (n := w) (by rw [← hL]; exact List.mem_of_getElem? he)
   obtain ⟨y, hyc⟩ : ∃ z, c[q]? = some z := ⟨_, List.getElem?_eq_getElem (by omega)⟩
   have hw : IntKind.i64.wrap ((s : Int) + 1) = (s : Int) + 1 := wrap_in (by omega) (by omega)
   have hrl := clsN_len M c i (L.take s)
   have hrt : (L.take s).length ≤ s := by simp; omega
   have hb1 : ((clsN M c i (L.take s)).length + 1) * 8 ≤ 140737488355328 := by omega
   have hb2 : (clsN M c i (L.take s)).length + 1 ≤ maxLen := by simp only [maxLen]; omega
   refine AWp_skip ?_
   try simp only [thenQ, blockQ, noGotoQ]
   refine y1 _ ?_
   try clear y1 Y1
   refine AWp_seqK fun Y1 y1 => ?_
   refine AWp_block ?_
   refine AWp_seqK fun Y2 y2 => ?_
   refine AWp_drawK 17 mixed (by kernel_rfl) fun J0 j0 => ?_
   iterate 8 (simp only [go_sem]; refine dRun_chunk 1 fun Q0 q0 => ?_; simp only [↓dRun, ↓dOp, ↓bO, go_sem, seval, hk, hi, hcl, hq1, hq2, gM he, gM hyc, gM hzc, hw, hb1, hb2, Int.natCast_add, intC]; refine q0 _ ?_; clear q0 Q0)
   simp only [go_sem]
   refine dRun_chunk 1 fun Q0 q0 => ?_
   simp only [↓dRun, ↓dOp, ↓bO, go_sem, seval, hk, hi, hcl, hq1, hq2, gM he, gM hyc, gM hzc, hw, hb1, hb2, Int.natCast_add, intC]
   refine ⟨_, RVar_pure M w, ?_⟩
   try simp only [bS, bA, thenQ, blockQ, noGotoQ]
   iterate 7 (refine q0 _ ?_; clear q0 Q0; simp only [go_sem]; refine dRun_chunk 1 fun Q0 q0 => ?_; simp only [↓dRun, ↓dOp, ↓bO, go_sem, seval, hk, hi, hcl, hq1, hq2, gM he, gM hyc, gM hzc, hw, hb1, hb2, Int.natCast_add, intC])
   refine q0 _ ?_
   clear q0 Q0
   simp only [go_sem]
   simp only [↓dRun, ↓dOp, ↓bO, go_sem, seval, hk, hi, hcl, hq1, hq2, gM he, gM hyc, gM hzc, hw, hb1, hb2, Int.natCast_add, intC]
   refine j0 _ ?_
   clear j0 J0
   simp only [bL, aops, thenQ, blockQ, noGotoQ]
   refine y2 _ ?_
   try clear y2 Y2
   refine AWp_cond rfl (fun hb33 => ?_) (fun hb33 => ?_)
   ·
    have hyz : y = z := by simpa using hb33
    have hst := clsN_yes (m := M) (c := c) (i := i) he (by rw [hq1, Int.toNat_natCast, hyc, hzc, hyz])
    refine AWp_region ?_
    iterate 5 (refine aops_chunk 1 fun Q0 q0 => ?_; simp only [↓bO, go_sem, seval, hk, hi, hcl, hq1, hq2, gM he, gM hyc, gM hzc, hw, hb1, hb2, Int.natCast_add, intC, hst, List.map_append, List.length_append]; refine q0 _ ?_; clear q0 Q0; simp only [go_sem])
    refine aops_chunk 1 fun Q0 q0 => ?_
    simp only [↓bO, go_sem, seval, ↓bs1_1, ↓bs1_2, ↓bs1_3, ↓bs1_4, ↓bs1_5, ↓bs1_6, ↓bs1_7, ↓bs1_8, ↓bs1_9, ↓bs1_10, ↓bs1_11, ↓bs1_12, hk, hi, hcl, hq1, hq2, gM he, gM hyc, gM hzc, hw, hb1, hb2, Int.natCast_add, intC, hst, List.map_append, List.length_append]
    refine q0 _ ?_
    clear q0 Q0
    simp only [go_sem]
    refine aops_chunk 1 fun Q0 q0 => ?_
    simp only [↓bO, go_sem, seval, hk, hi, hcl, hq1, hq2, gM he, gM hyc, gM hzc, hw, hb1, hb2, Int.natCast_add, intC, hst, List.map_append, List.length_append]
    refine q0 _ ?_
    clear q0 Q0
    simp only [go_sem]
    simp only [↓bO, go_sem, seval, hk, hi, hcl, hq1, hq2, gM he, gM hyc, gM hzc, hw, hb1, hb2, Int.natCast_add, intC, hst, List.map_append, List.length_append]
    refine y1 _ ?_
    try clear y1 Y1
    refine AWp_region ?_
    iterate 2 (refine aops_chunk 1 fun Q0 q0 => ?_; simp only [↓bO, go_sem, seval, hk, hi, hcl, hq1, hq2, gM he, gM hyc, gM hzc, hw, hb1, hb2, Int.natCast_add, intC, hst, List.map_append, List.length_append]; refine q0 _ ?_; clear q0 Q0; simp only [go_sem])
    simp only [↓bO, go_sem, seval, hk, hi, hcl, hq1, hq2, gM he, gM hyc, gM hzc, hw, hb1, hb2, Int.natCast_add, intC, hst, List.map_append, List.length_append]
    refine ⟨(s + 1), (by omega), by omega, ?_⟩
    simp only [maskL, setsL, putsO, putO, mB, List.set_cons_zero, List.set_cons_succ, seval, hk, hi, hcl, hq1, hq2, gM he, gM hyc, gM hzc, hw, hb1, hb2, Int.natCast_add, Int.natCast_one, Int.cast_ofNat_Int, intC, hst, List.map_append, bL, List.length_append]
    exact Weak.mk (by simp only [go_sem, Le.refl, Le.any, Le.slNil, Int.natCast_add, Int.cast_ofNat_Int, Int.natCast_one]) (fun _ _ h => h) rfl rfl
   ·
    have hyz : ¬ y = z := by simpa using hb33
    have hst := clsN_no (m := M) (c := c) (i := i) he (by rw [hq1, Int.toNat_natCast, hyc, hzc]; simpa using hyz)
    refine AWp_skip ?_
    try simp only [thenQ, blockQ, noGotoQ]
    refine y1 _ ?_
    try clear y1 Y1
    refine AWp_region ?_
    iterate 2 (refine aops_chunk 1 fun Q0 q0 => ?_; simp only [↓bO, go_sem, seval, hk, hi, hcl, hq1, hq2, gM he, gM hyc, gM hzc, hw, hb1, hb2, Int.natCast_add, intC, hst]; refine q0 _ ?_; clear q0 Q0; simp only [go_sem])
    simp only [↓bO, go_sem, seval, hk, hi, hcl, hq1, hq2, gM he, gM hyc, gM hzc, hw, hb1, hb2, Int.natCast_add, intC, hst]
    refine ⟨(s + 1), (by omega), by omega, ?_⟩
    simp only [maskL, setsL, putsO, putO, mB, List.set_cons_zero, List.set_cons_succ, seval, hk, hi, hcl, hq1, hq2, gM he, gM hyc, gM hzc, hw, hb1, hb2, Int.natCast_add, Int.natCast_one, Int.cast_ofNat_Int, intC, hst]
    exact Weak.mk (by simp only [go_sem, Le.refl, Le.any, Le.slNil, Int.natCast_add, Int.cast_ofNat_Int, Int.natCast_one]) (fun _ _ h => h) rfl rfl
  ·
   have hk : s = L.length := by (have h9 := hb14; simp at h9; omega)
   refine AWp_exit ?_
   simp only [thenQ, blockQ, noGotoQ, bA, Nat.reduceEqDiff, ↓reduceIte]
   refine y0 _ ?_
   try clear y0 Y0
   refine AWp_seqK fun Y0 y0 => ?_
   refine AWp_region ?_
   refine aops_chunk 1 fun Q0 q0 => ?_
   simp only [↓bO, go_sem, seval]
   refine q0 _ ?_
   clear q0 Q0
   simp only [go_sem]
   simp only [↓bO, go_sem, seval]
   refine y0 _ ?_
   try clear y0 Y0
   refine AWp_ret ?_
   try simp only [thenQ, blockQ, noGotoQ, retQ, aRes, tupOf, bS, bA]
   rw [hk, List.take_length, ← hL]; exact Le.oslL
end Go.Proofs.Ytjjjckjebkmnjaa
namespace Go.Proofs.Ytjjjckjebkmnjaa
open Go Go.RowKit
set_option maxRecDepth 100000
set_option maxHeartbeats 4000000
set_option linter.unusedSimpArgs false
set_option linter.unusedVariables false
attribute [local irreducible] aops dRun
theorem Und.eptr {n : Nat} {cs : List AV} (h : UndL n cs) : Und n (.eptr cs) := fun E A w u hr => by
  cases hr with
  | eptr g hcell hh => exact .eptr g hcell fun j c hc => h.mem c (List.mem_of_getElem? hc) E A w _ (hh j c hc)
structure PSt (l : List (Ty × Ty)) (M : List RNode) (c : List Int) (S : CS) : Prop where
  h : Holds l S
  hc : ColE l c
  m : M = (eqF l).1
  len : M.length ≤ 1048576
  keys : S.G.V.map Prod.fst = vns M
theorem PSt.fsame {l : List (Ty × Ty)} {M : List RNode} {c : List Int} {S : CS} {F1 : FS} (h : PSt l M c S) (k : FSame S.F F1) : PSt l M c { S with F := F1 } := ⟨h.h.fsame k rfl, h.hc, h.m, h.len, h.keys⟩
theorem PSt.h64 {l : List (Ty × Ty)} {M : List RNode} {c : List Int} {S : CS} (h : PSt l M c S) : ∀ q ∈ S.G.V, is64 q.1 := fun q hq => vns_64 h.h.2.rel q.1 (by rw [← h.m, ← h.keys]; exact List.mem_map.2 ⟨q, hq, rfl⟩)
theorem PSt.vl {l : List (Ty × Ty)} {M : List RNode} {c : List Int} {S : CS} (h : PSt l M c S) : S.G.V.length ≤ 1048576 := by
  have h1 := congrArg List.length h.keys
  rw [List.length_map] at h1
  have h2 : (vns M).length ≤ M.length := by unfold vns; rw [List.length_map]; exact List.length_filter_le _ _
  have h3 := h.len
  omega
theorem PSt.sort {l : List (Ty × Ty)} {M : List RNode} {c : List Int} {S : CS} (h : PSt l M c S) : sortI (S.G.V.map Prod.fst) = varsI M := by rw [h.keys, varsI_eq]
theorem PSt.col {l : List (Ty × Ty)} {M : List RNode} {c : List Int} {S : CS} (h : PSt l M c S) : c.length = M.length := by rw [h.m]; exact h.hc.len
theorem PSt.nl {l : List (Ty × Ty)} {M : List RNode} {c : List Int} {S : CS} (h : PSt l M c S) : S.F.up.length = M.length := by rw [h.h.2.w.c.fl, h.h.2.w.c.wl, h.m, h.h.2.rel.len]
theorem PSt.least {l : List (Ty × Ty)} {M : List RNode} {c : List Int} {S : CS} (h : PSt l M c S) {i r : Nat} (hi : i < M.length) (hr : Rt S.F.up i r) : leastV S r (sortI (S.G.V.map Prod.fst)) = ((clsN M c i (varsI M)).head?).getD (-1) := by
  rw [h.sort]
  have hm := h.m
  subst hm
  exact h.h.least_eq h.hc hi hr
structure PAt (M : List RNode) (c : List Int) (S : CS) (i : Nat) (x : Int) : Prop where
  no : x < 0 → wholeI M c i = -1 ∧ kindN M c i = 0
  yes : 0 ≤ x → ∃ (k : Nat) (g : GNode) (y : RNode), wholeI M c i = (k : Int) ∧ S.G.N[x.toNat]? = some g ∧ M[k]? = some y ∧ kindN M c i = g.k ∧ 1 ≤ g.k ∧ g.parts.length = y.parts.length ∧ g.parts.length ≤ 8 ∧ (∀ p ∈ g.parts, 0 ≤ p ∧ p < (S.F.up.length : Int)) ∧
    ∀ (j : Nat) (p q : Int), g.parts[j]? = some p → y.parts[j]? = some q → 0 ≤ q ∧ q < (M.length : Int) ∧ ∀ r', Rt S.F.up p.toNat r' → Rt S.F.up q.toNat r'
theorem PSt.part {l : List (Ty × Ty)} {M : List RNode} {c : List Int} {S : CS} (h : PSt l M c S) {i r : Nat} {x : Int} (hi : i < M.length) (hr : Rt S.F.up i r) (hx : S.W[r]? = some x) : PAt M c S i x := by
  have hm := h.m
  subst hm
  have h1 := h.h.part h.hc hi hr hx
  exact ⟨h1.no, h1.yes⟩
theorem PAt.kind {M : List RNode} {c : List Int} {S : CS} {i : Nat} {x k : Int} (h : PAt M c S i x) (hk : (x < 0 ∧ k = 0) ∨ (0 ≤ x ∧ ∃ g, S.G.N[x.toNat]? = some g ∧ k = g.k)) : k = kindN M c i := by
  rcases hk with ⟨h1, rfl⟩ | ⟨h1, g, hg, rfl⟩
  · exact (h.no h1).2.symm
  · obtain ⟨_, g', _, _, h3, _, h4, _⟩ := h.yes h1
    rw [hg] at h3; cases h3; exact h4.symm
theorem PAt.g0 {M : List RNode} {c : List Int} {S : CS} {i : Nat} {x : Int} (h : PAt M c S i x) : 0 ≤ x → ∃ g, S.G.N[x.toNat]? = some g ∧ 1 ≤ g.k ∧ g.parts.length ≤ 8 ∧ ∀ p ∈ g.parts, 0 ≤ p ∧ p < (S.F.up.length : Int) := fun h1 => by
  obtain ⟨_, g, _, _, h2, _, _, h3, _, h4, h5, _⟩ := h.yes h1
  exact ⟨g, h2, h3, h4, h5⟩
theorem PAt.neg {M : List RNode} {c : List Int} {S : CS} {i : Nat} {x : Int} (h : PAt M c S i x) : x < 0 ↔ wholeI M c i < 0 := by
  constructor
  · intro h1; have := (h.no h1).1; omega
  · intro h1
    rcases Int.lt_or_le x 0 with h2 | h2
    · exact h2
    · obtain ⟨k, _, _, h3, _⟩ := h.yes h2
      omega
def Roots (S : CS) (x : Int) (rs : List Nat) : Prop := (x < 0 ∧ rs = []) ∨ (0 ≤ x ∧ ∃ g, S.G.N[x.toNat]? = some g ∧ rs.length = g.parts.length ∧ ∀ (j : Nat) (p : Int) (q : Nat), g.parts[j]? = some p → rs[j]? = some q → Rt S.F.up p.toNat q)
theorem PAt.roots {M : List RNode} {c : List Int} {S : CS} {i : Nat} {x : Int} (h : PAt M c S i x) {rs : List Nat} (hr : Roots S x rs) (hx : ¬ wholeI M c i < 0) : ∃ (k : Nat) (y : RNode), wholeI M c i = (k : Int) ∧ k < M.length ∧ M[k]? = some y ∧ rs.length = y.parts.length ∧ rs.length ≤ 8 ∧
    ∀ (j : Nat) (r' : Nat), rs[j]? = some r' → ∃ q : Nat, y.parts[j]? = some (q : Int) ∧ q < M.length ∧ Rt S.F.up q r' := by
  rcases hr with ⟨h1, _⟩ | ⟨h1, g, hg, hl, hall⟩
  · exact absurd (h.neg.1 h1) hx
  · obtain ⟨k, g', y, h2, h3, h4, _, _, h5, h6, h7, h8⟩ := h.yes h1
    rw [hg] at h3; cases h3
    refine ⟨k, y, h2, (List.getElem?_eq_some_iff.1 h4).1, h4, by omega, by omega, fun j r' hj => ?_⟩
    have hjl := (List.getElem?_eq_some_iff.1 hj).1
    have hp : g.parts[j]? = some (g.parts[j]'(by omega)) := List.getElem?_eq_getElem (by omega)
    have hq : y.parts[j]? = some (y.parts[j]'(by omega)) := List.getElem?_eq_getElem (by omega)
    obtain ⟨e1, e2, e3⟩ := h8 j _ _ hp hq
    have e4 : y.parts[j]'(by omega) = (((y.parts[j]'(by omega)).toNat : Nat) : Int) := by omega
    exact ⟨(y.parts[j]'(by omega)).toNat, by rw [← e4]; exact hq, by omega, e3 r' (hall j _ _ hp hj)⟩
theorem PartIdNil : APure Try.prog 34 [.agg [.v (.pointer none), .v (.int .i64 0)]] (.v (.int .i64 (-1))) := by
  refine APure.mkL (.cons (.agg (.cons (.v _) (.cons (.v _) .nil))) .nil) (.v _) ?_
  refine ACalls_intro Try.func34 (by kernel_rfl) rfl (by rw [Try.ntmps34]; simp) (fun hm => ?_)
  simp only [Try.ntmps34, Try.results34, List.length_cons, List.length_nil, Nat.reduceAdd, Nat.reduceSub, List.replicate_succ, List.replicate_zero, List.cons_append, List.nil_append]
  refine AWp_seqK fun Y0 y0 => ?_
  refine AWp_region ?_
  refine aops_chunk 1 fun Q0 q0 => ?_
  simp only [↓bO, go_sem, seval]
  refine q0 _ ?_
  clear q0 Q0
  simp only [go_sem]
  simp only [↓bO, go_sem, seval]
  refine y0 _ ?_
  try clear y0 Y0
  refine AWp_seqK fun Y0 y0 => ?_
  refine AWp_seqK fun Y1 y1 => ?_
  refine AWp_region ?_
  iterate 2 (refine aops_chunk 1 fun Q0 q0 => ?_; simp only [↓bO, go_sem, seval]; refine q0 _ ?_; clear q0 Q0; simp only [go_sem])
  simp only [↓bO, go_sem, seval]
  refine y1 _ ?_
  try clear y1 Y1
  refine AWp_cond rfl (fun hb5 => ?_) (fun hb5 => ?_)
  ·
   refine AWp_seqK fun Y1 y1 => ?_
   refine AWp_region ?_
   simp only [↓bO, go_sem, seval]
   refine y1 _ ?_
   try clear y1 Y1
   refine AWp_ret ?_
   try simp only [thenQ, blockQ, noGotoQ, retQ, aRes, tupOf, bS, bA]
   exact Le.refl _
  ·
   exact absurd hb5 (by simp)
theorem PartKindNil : APure Try.prog 35 [.agg [.v (.pointer none), .v (.int .i64 0)]] (.v (.int .i64 0)) := by
  refine APure.mkL (.cons (.agg (.cons (.v _) (.cons (.v _) .nil))) .nil) (.v _) ?_
  refine ACalls_intro Try.func35 (by kernel_rfl) rfl (by rw [Try.ntmps35]; simp) (fun hm => ?_)
  simp only [Try.ntmps35, Try.results35, List.length_cons, List.length_nil, Nat.reduceAdd, Nat.reduceSub, List.replicate_succ, List.replicate_zero, List.cons_append, List.nil_append]
  refine AWp_seqK fun Y0 y0 => ?_
  refine AWp_region ?_
  refine aops_chunk 1 fun Q0 q0 => ?_
  simp only [↓bO, go_sem, seval]
  refine q0 _ ?_
  clear q0 Q0
  simp only [go_sem]
  simp only [↓bO, go_sem, seval]
  refine y0 _ ?_
  try clear y0 Y0
  refine AWp_seqK fun Y0 y0 => ?_
  refine AWp_seqK fun Y1 y1 => ?_
  refine AWp_drawK 15 mixed (by kernel_rfl) fun J0 j0 => ?_
  iterate 4 (simp only [go_sem]; refine dRun_chunk 1 fun Q0 q0 => ?_; simp only [↓dRun, ↓dOp, ↓bO, go_sem, seval]; refine q0 _ ?_; clear q0 Q0)
  simp only [go_sem]
  refine dRun_case 6 rfl (fun hc6 => ?_) (fun hc6 => ?_)
  ·
   simp only [List.set_cons_zero, List.set_cons_succ]
   iterate 10 (refine dRun_chunk 1 fun Q0 q0 => ?_; simp only [↓dRun, ↓dOp, ↓bO, go_sem, seval]; refine q0 _ ?_; clear q0 Q0; simp only [go_sem])
   simp only [↓dRun, ↓dOp, ↓bO, go_sem, seval]
   refine j0 _ ?_
   clear j0 J0
   simp only [bL, aops, thenQ, blockQ, noGotoQ]
   refine y1 _ ?_
   try clear y1 Y1
   refine AWp_cond (b := true) (by first | exact rfl | exact congrArg (fun b => AV.v (.bool b)) hb17) (fun _ => ?_) (fun h => (by cases h))
   refine AWp_seqK fun Y1 y1 => ?_
   refine AWp_region ?_
   simp only [↓bO, go_sem, seval]
   refine y1 _ ?_
   try clear y1 Y1
   refine AWp_ret ?_
   try simp only [thenQ, blockQ, noGotoQ, retQ, aRes, tupOf, bS, bA]
   exact Le.refl _
  ·
   simp only [List.set_cons_zero, List.set_cons_succ]
   exact absurd hc6 (by simp)
theorem PartVarNil : APure Try.prog 36 [.agg [.v (.pointer none), .v (.int .i64 0)]] (.v (.int .i64 (-1))) := by
  refine APure.mkL (.cons (.agg (.cons (.v _) (.cons (.v _) .nil))) .nil) (.v _) ?_
  refine ACalls_intro Try.func36 (by kernel_rfl) rfl (by rw [Try.ntmps36]; simp) (fun hm => ?_)
  simp only [Try.ntmps36, Try.results36, List.length_cons, List.length_nil, Nat.reduceAdd, Nat.reduceSub, List.replicate_succ, List.replicate_zero, List.cons_append, List.nil_append]
  refine AWp_seqK fun Y0 y0 => ?_
  refine AWp_region ?_
  refine aops_chunk 1 fun Q0 q0 => ?_
  simp only [↓bO, go_sem, seval]
  refine q0 _ ?_
  clear q0 Q0
  simp only [go_sem]
  simp only [↓bO, go_sem, seval]
  refine y0 _ ?_
  try clear y0 Y0
  refine AWp_seqK fun Y0 y0 => ?_
  refine AWp_seqK fun Y1 y1 => ?_
  refine AWp_region ?_
  iterate 2 (refine aops_chunk 1 fun Q0 q0 => ?_; simp only [↓bO, go_sem, seval]; refine q0 _ ?_; clear q0 Q0; simp only [go_sem])
  simp only [↓bO, go_sem, seval]
  refine y1 _ ?_
  try clear y1 Y1
  refine AWp_cond rfl (fun hb7 => ?_) (fun hb7 => ?_)
  ·
   refine AWp_seqK fun Y1 y1 => ?_
   refine AWp_region ?_
   simp only [↓bO, go_sem, seval]
   refine y1 _ ?_
   try clear y1 Y1
   refine AWp_ret ?_
   try simp only [thenQ, blockQ, noGotoQ, retQ, aRes, tupOf, bS, bA]
   exact Le.refl _
  ·
   exact absurd hb7 (by simp)
theorem PartPartsNil : APure Try.prog 37 [.agg [.v (.pointer none), .v (.int .i64 0)]] (.sl 2 []) := by
  refine APure.mkL (.cons (.agg (.cons (.v _) (.cons (.v _) .nil))) .nil) (.sl (by intro x hx; cases hx)) ?_
  refine ACalls_intro Try.func37 (by kernel_rfl) rfl (by rw [Try.ntmps37]; simp) (fun hm => ?_)
  simp only [Try.ntmps37, Try.results37, List.length_cons, List.length_nil, Nat.reduceAdd, Nat.reduceSub, List.replicate_succ, List.replicate_zero, List.cons_append, List.nil_append]
  refine AWp_seqK fun Y0 y0 => ?_
  refine AWp_region ?_
  refine aops_chunk 1 fun Q0 q0 => ?_
  simp only [↓bO, go_sem, seval]
  refine q0 _ ?_
  clear q0 Q0
  simp only [go_sem]
  simp only [↓bO, go_sem, seval]
  refine y0 _ ?_
  try clear y0 Y0
  refine AWp_seqK fun Y0 y0 => ?_
  refine AWp_seqK fun Y1 y1 => ?_
  refine AWp_region ?_
  refine aops_chunk 1 fun Q0 q0 => ?_
  simp only [↓bO, go_sem, seval]
  refine q0 _ ?_
  clear q0 Q0
  simp only [go_sem]
  refine aops_chunk 1 fun Q0 q0 => ?_
  simp only [↓bO, go_sem, seval]
  refine APure.call (PartKindNil) ?_
  try simp only [bS, bA, thenQ, blockQ, noGotoQ]
  refine q0 _ ?_
  clear q0 Q0
  simp only [go_sem]
  simp only [↓bO, go_sem, seval]
  refine y1 _ ?_
  try clear y1 Y1
  refine AWp_cond rfl (fun hb8 => ?_) (fun hb8 => ?_)
  ·
   refine AWp_seqK fun Y1 y1 => ?_
   refine AWp_region ?_
   simp only [↓bO, go_sem, seval]
   refine y1 _ ?_
   try clear y1 Y1
   refine AWp_ret ?_
   try simp only [thenQ, blockQ, noGotoQ, retQ, aRes, tupOf, bS, bA]
   exact Le.slNil 2
  ·
   exact absurd hb8 (by simp)
theorem parts_c {l : List (Ty × Ty)} {M : List RNode} {c : List Int} : ∀ (deep : Nat) (S : CS) (hS : PSt l M c S) (i r : Nat) (hd : deep ≤ 8) (hi : i < M.length) (hr : Rt S.F.up i r), CCalls (σ := Unit) 32 [.agg [.ptr 0 0, .v (.int .i64 (r : Int))], .agg [.sl 4 (M.map RNode.cells), .sl 1 (c.map intC)], .v (.int .i64 (i : Int)), .v (.int .i64 (deep : Int))] S (fun s => FSame S.F s.1.F ∧ s.1 = { S with F := s.1.F }) (fun _ => .v (.bool true)) := by
  intro deep
  induction deep using Nat.strongRecOn with
  | ind deep ih =>
  intro S hS i r hd hi hr
  refine ACalls.clean (C := fun z os => ∃ s : CS × Unit, (FSame S.F s.1.F ∧ s.1 = { S with F := s.1.F }) ∧ z = (fun _ : Unit => .v (.bool true)) s.2 ∧ os = enumO 0 (cObs s.1)) ?_
  refine ACalls_intro Try.func32 (by kernel_rfl) rfl (by rw [Try.ntmps32]; simp) (fun hm => ?_)
  simp only [Try.ntmps32, Try.results32, List.length_cons, List.length_nil, Nat.reduceAdd, Nat.reduceSub, List.replicate_succ, List.replicate_zero, List.cons_append, List.nil_append]
  simp only [cObs, enumO, Nat.reduceAdd]
  have hMl := hS.len
  have hcl := hS.col
  have hnl := hS.nl
  have hC := hS.h.2.w.c
  have hfl := hC.fl
  have hrl := hr.lt
  obtain ⟨x, hx⟩ : ∃ x, S.W[r]? = some x := ⟨_, List.getElem?_eq_getElem (by omega)⟩
  have hP := hS.part hi hr hx
  obtain ⟨cls, hcls⟩ : ∃ cl, cl = clsN M c i (varsI M) := ⟨_, rfl⟩
  obtain ⟨lst, hlst⟩ : ∃ z, z = (cls.head?).getD (-1) := ⟨_, rfl⟩
  have hlv := hS.least hi hr
  rw [← hcls, ← hlst] at hlv
  refine AWp_joinZ (mB 92 60) ([(4, .eptr [.ptr 0 0, .v (.int .i64 (r : Int))]), (5, .eptr [.sl 4 (M.map RNode.cells), .sl 1 (c.map intC)]), (8, .v (.bool false))]) [(0, .cells 89 [.v (.int .i64 S.steps), .ptr 1 0, .ptr 4 0, .own 7 S.W.length, .v (.bool S.clash)]), (1, .cells 118 [.osl 2 4 (S.G.N.map GNode.cells), .map 3]), (2, .tok 128 4 S.G.N.length), (3, .map (S.G.V.map vC)), (4, .cells 115 [.own 5 S.F.up.length, .own 6 S.F.rank.length, .v (.int .i64 S.F.sets), .v (.int .i64 S.F.steps)]), (5, .row 3 1 (S.F.up.map nC)), (6, .row 3 1 (S.F.rank.map intC)), (7, .row 3 1 (S.W.map intC))] 8 (True) ?_ (fun hC9 => ?_)
  ·
   refine AWp_region ?_
   iterate 2 (refine aops_chunk 1 fun Q0 q0 => ?_; simp only [↓bO, go_sem, seval]; refine q0 _ ?_; clear q0 Q0; simp only [go_sem])
   simp only [↓bO, go_sem, seval]
   try simp only [maskL, setsL, putsO, putO, mB, List.set_cons_zero, List.set_cons_succ, seval]
   first | refine ⟨trivial, ?_⟩ | skip
   refine Weak.freeze ?_ ⟨rfl, rfl, rfl, rfl, rfl, rfl, rfl, rfl, trivial⟩ (by first | omega | (simp only; omega)) (by first | omega | (simp only; omega)) ?_ ?_
   · repeat' first | trivial | exact .inr ⟨_, _, _, rfl, rfl, rfl, rfl⟩ | exact .inl (.refl _) | exact .inl (.any _) | (refine ⟨?_, ?_⟩)
   · repeat' first | exact trivial | exact .any _ | exact .ptr (by omega) | exact .own (by omega) | exact .v _ _ | exact Und.data (EqT.dataSl _) | exact Und.data (dataInts _) | exact Und.data (.eptr (.cons (RNode.dataSl _) (.cons (dataInts _) .nil))) | exact Und.eptr ⟨.ptr (by omega), .v _ _, trivial⟩ | exact Und.parts (by omega) _ | (refine ⟨?_, ?_⟩)
   · repeat' first | exact trivial | (with_reducible omega) | exact .any _ | exact .ptr (by omega) | exact .own (by omega) | exact .v _ _ | exact .map (by omega) | exact Und.oslG (by omega) | exact Und.rowI (nC_data _) | exact Und.rowI (iC_data _) | exact (fun p hp => .data (vC_data _ p hp)) | (refine ⟨?_, ?_⟩)
  simp only [maskL, setsL, putsO, putO, mB, List.set_cons_zero, List.set_cons_succ, seval]
  refine AWp_seqK fun Y0 y0 => ?_
  refine AWp_region ?_
  simp only [↓bO, go_sem, seval]
  refine y0 _ ?_
  try clear y0 Y0
  refine AWp_joinM (mB 92 572) ([(9, .v (.int .i64 lst))]) ([]) ?_ ?_
  ·
   refine AWp_seqK fun Y0 y0 => ?_
   refine AWp_region ?_
   iterate 2 (refine aops_chunk 1 fun Q0 q0 => ?_; simp only [↓bO, go_sem, seval]; refine q0 _ ?_; clear q0 Q0; simp only [go_sem])
   refine aops_chunk 1 fun Q0 q0 => ?_
   simp only [↓bO, go_sem, seval]
   refine APure.call (RCls_pure M c i hi hcl hMl) ?_
   rw [← hcls]
   try simp only [bS, bA, thenQ, blockQ, noGotoQ]
   refine q0 _ ?_
   clear q0 Q0
   simp only [go_sem]
   simp only [↓bO, go_sem, seval]
   refine y0 _ ?_
   try clear y0 Y0
   refine AWp_seqK fun Y0 y0 => ?_
   refine AWp_region ?_
   iterate 2 (refine aops_chunk 1 fun Q0 q0 => ?_; simp only [↓bO, go_sem, seval]; refine q0 _ ?_; clear q0 Q0; simp only [go_sem])
   simp only [↓bO, go_sem, seval]
   refine y0 _ ?_
   try clear y0 Y0
   refine AWp_cond rfl (fun hb19 => ?_) (fun hb19 => ?_)
   ·
    have hpos : (0 : Int) < (cls.length : Int) := by (have h9 := hb19; simp at h9; omega)
    obtain ⟨v0, hv0⟩ : ∃ v, cls[0]? = some v := ⟨_, List.getElem?_eq_getElem (by omega)⟩
    have hl0 : lst = v0 := by rw [hlst, List.head?_eq_getElem?, hv0]; rfl
    refine AWp_region ?_
    iterate 3 (refine aops_chunk 1 fun Q0 q0 => ?_; simp only [↓bO, go_sem, seval, hpos, gM hv0, intC]; refine q0 _ ?_; clear q0 Q0; simp only [go_sem])
    simp only [↓bO, go_sem, seval, hpos, gM hv0, intC]
    try simp only [maskL, setsL, putsO, putO, mB, List.set_cons_zero, List.set_cons_succ, seval]
    rw [hl0]
    exact Weak.mk (by simp only [go_sem, Le.refl, Le.any]) (fun _ _ h => h) rfl rfl
   ·
    have hl0 : lst = -1 := by (have h9 : cls = [] := List.eq_nil_of_length_eq_zero (by have h9 := hb19; simp at h9; simpa using h9); rw [hlst, h9]; rfl)
    refine AWp_skip ?_
    try simp only [thenQ, blockQ, noGotoQ]
    try simp only [maskL, setsL, putsO, putO, mB, List.set_cons_zero, List.set_cons_succ, seval]
    rw [hl0]
    exact Weak.mk (by simp only [go_sem, Le.refl, Le.any]) (fun _ _ h => h) rfl rfl
  simp only [maskL, setsL, putsO, putO, mB, List.set_cons_zero, List.set_cons_succ, seval]
  refine AWp_seqK fun Y0 y0 => ?_
  refine AWp_seqK fun Y1 y1 => ?_
  refine NAny_start 17 [4, 5] rfl mixed ?_
  dsimp only
  refine NAny_takeK 0 rfl (by kernel_rfl) (by kernel_rfl) (by kernel_rfl) (fun _ _ h => h) (by kernel_rfl) (fun d h => by cases h; rfl) (by kernel_rfl) (G' := [23, 4, 5]) (by kernel_rfl) fun Q0 q0 => ?_
  simp only [↓bO, go_sem, seval, nHead, isE, isSE, isV]
  refine q0 _ ?_
  clear q0 Q0
  refine NAny_takeK 2 rfl (by kernel_rfl) (by kernel_rfl) (by kernel_rfl) (fun _ _ h => h) (by kernel_rfl) (fun d h => by cases h; rfl) (by kernel_rfl) (G' := [25, 23, 4, 5]) (by kernel_rfl) fun Q0 q0 => ?_
  simp only [↓bO, go_sem, seval, nHead, isE, isSE, isV]
  refine q0 _ ?_
  clear q0 Q0
  refine NAny_takeK 3 rfl (by kernel_rfl) (by kernel_rfl) (by kernel_rfl) (fun _ _ h => h) (by kernel_rfl) (fun d h => by cases h; rfl) (by kernel_rfl) (G' := [25, 23, 4, 5]) (by kernel_rfl) fun Q0 q0 => ?_
  simp only [↓bO, go_sem, seval, nHead, isE, isSE, isV]
  refine q0 _ ?_
  clear q0 Q0
  refine NAny_all1 (i := 1) (by kernel_rfl) rfl (fun d h => by cases h; rfl) ?_
  refine aAt_op rfl rfl fun Q0 q0 => ?_
  simp only [↓bO, go_sem, seval]
  refine CCalls.atP (PKind_cc S hC.wr r x hx) (i0 := 0) (i1 := 1) (i2 := 2) (i3 := 3) (i4 := 4) (i5 := 5) (i6 := 6) (i7 := 7) (by exact ⟨.agg ⟨.ptr rfl, .v _, trivial⟩, trivial⟩) (fun _ => by exact .v _) (by decide) (by simp) ⟨rfl, rfl, rfl, rfl, rfl, rfl, rfl, rfl, trivial⟩ (fun Z1 k1 hZ1 => ?_)
  try dsimp only at hZ1
  simp only [cObsAt, List.zip_cons_cons, List.zip_nil_left, List.zip_nil_right, putsO, putO, Nat.reduceEqDiff, ↓reduceIte]
  obtain ⟨hZ1, hk1⟩ := hZ1
  obtain rfl : S = Z1 := hZ1.symm
  have hk2 := hP.kind hk1
  subst hk2
  try simp only [bS, bA]
  refine q0 _ ⟨⟨rfl, rfl, rfl, rfl, trivial⟩, ?_⟩
  clear q0 Q0
  refine NAny_all1 (i := 4) (by kernel_rfl) rfl (fun d h => by cases h; rfl) ?_
  refine aAt_op rfl rfl fun Q0 q0 => ?_
  simp only [↓bO, go_sem, seval]
  refine APure.call (RKind_pure M c i hi hcl hMl) ?_
  try simp only [bS, bA]
  refine q0 _ ⟨⟨rfl, rfl, rfl, rfl, trivial⟩, ?_⟩
  clear q0 Q0
  refine NAny_all1 (i := 5) (by kernel_rfl) rfl (fun d h => by cases h; rfl) ?_
  refine aAt_op rfl rfl fun Q0 q0 => ?_
  simp only [↓bO, go_sem, seval]
  refine q0 _ ⟨⟨rfl, rfl, rfl, rfl, trivial⟩, ?_⟩
  clear q0 Q0
  refine NAny_takeK 6 rfl (by kernel_rfl) (by kernel_rfl) (by kernel_rfl) (fun _ _ h => h) (by kernel_rfl) (fun d h => by cases h; rfl) (by kernel_rfl) (G' := [25, 23, 4, 5]) (by kernel_rfl) fun Q0 q0 => ?_
  simp only [↓bO, go_sem, seval, nHead, isE, isSE, isV]
  refine q0 _ ?_
  clear q0 Q0
  refine NAny_case 29 rfl (fun hc29 => ?_) (fun hc29 => ?_)
  ·
   simp only [List.set_cons_zero, List.set_cons_succ]
   exact absurd hc29 (by simp)
  ·
   simp only [List.set_cons_zero, List.set_cons_succ]
   refine NAny_takeK 7 rfl (by kernel_rfl) (by kernel_rfl) (by kernel_rfl) (fun _ _ h => h) (by kernel_rfl) (fun d h => by cases h; rfl) (by kernel_rfl) (G' := [30, 25, 23, 4, 5]) (by kernel_rfl) fun Q0 q0 => ?_
   simp only [↓bO, go_sem, seval, nHead, isE, isSE, isV]
   refine q0 _ ?_
   clear q0 Q0
   refine NAny_takeK 9 rfl (by kernel_rfl) (by kernel_rfl) (by kernel_rfl) (fun _ _ h => h) (by kernel_rfl) (fun d h => by cases h; rfl) (by kernel_rfl) (G' := [30, 25, 23, 4, 5]) (by kernel_rfl) fun Q0 q0 => ?_
   simp only [↓bO, go_sem, seval, nHead, isE, isSE, isV]
   refine q0 _ ?_
   clear q0 Q0
   refine NAny_all1 (i := 8) (by kernel_rfl) rfl (fun d h => by cases h; rfl) ?_
   refine aAt_if rfl fun Q0 q0 => ?_
   simp only [↓bO, go_sem, seval]
   refine CCalls.atP (PVar_c S r hC.f hS.h.2.vin hS.h64 hS.vl) (i0 := 0) (i1 := 1) (i2 := 2) (i3 := 3) (i4 := 4) (i5 := 5) (i6 := 6) (i7 := 7) (by exact ⟨.agg ⟨.ptr rfl, .v _, trivial⟩, trivial⟩) (fun _ => by exact .v _) (by decide) (by simp) ⟨rfl, rfl, rfl, rfl, rfl, rfl, rfl, rfl, trivial⟩ (fun Z2 u2 hZ2 => ?_)
   try dsimp only at hZ2
   simp only [cObsAt, List.zip_cons_cons, List.zip_nil_left, List.zip_nil_right, putsO, putO, Nat.reduceEqDiff, ↓reduceIte]
   obtain ⟨F1, rfl⟩ : ∃ F1, Z2 = { S with F := F1 } := ⟨Z2.F, hZ2.2⟩
   have hF1 : FSame S.F F1 := hZ2.1
   rw [hlv]
   try simp only [bS, bA]
   refine q0 _ ⟨⟨rfl, rfl, rfl, rfl, rfl, trivial⟩, ?_⟩
   clear q0 Q0
   refine NAny_all1 (i := 10) (by kernel_rfl) rfl (fun d h => by cases h; rfl) ?_
   refine aAt_if rfl fun Q0 q0 => ?_
   simp only [↓bO, go_sem, seval]
   refine q0 _ ⟨⟨rfl, rfl, rfl, rfl, rfl, trivial⟩, ?_⟩
   clear q0 Q0
   refine NAny_all1 (i := 11) (by kernel_rfl) rfl (fun d h => by cases h; rfl) ?_
   refine aAt_op rfl rfl fun Q0 q0 => ?_
   simp only [↓bO, go_sem, seval]
   refine q0 _ ⟨⟨rfl, rfl, rfl, rfl, rfl, trivial⟩, ?_⟩
   clear q0 Q0
   refine NAny_takeK 12 rfl (by kernel_rfl) (by kernel_rfl) (by kernel_rfl) (fun _ _ h => h) (by kernel_rfl) (fun d h => by cases h; rfl) (by kernel_rfl) (G' := [30, 25, 23, 4, 5]) (by kernel_rfl) fun Q0 q0 => ?_
   simp only [↓bO, go_sem, seval, nHead, isE, isSE, isV]
   refine q0 _ ?_
   clear q0 Q0
   refine NAny_case 35 rfl (fun hc35 => ?_) (fun hc35 => ?_)
   ·
    simp only [List.set_cons_zero, List.set_cons_succ]
    exact absurd hc35 (by simp)
   ·
    simp only [List.set_cons_zero, List.set_cons_succ]
    refine NAny_takeK 13 rfl (by kernel_rfl) (by kernel_rfl) (by kernel_rfl) (fun _ _ h => h) (by kernel_rfl) (fun d h => by cases h; rfl) (by kernel_rfl) (G' := [36, 30, 25, 23, 4, 5]) (by kernel_rfl) fun Q0 q0 => ?_
    simp only [↓bO, go_sem, seval, nHead, isE, isSE, isV]
    refine q0 _ ?_
    clear q0 Q0
    refine NAny_all1 (i := 14) (by kernel_rfl) rfl (fun d h => by cases h; rfl) ?_
    refine aAt_if rfl fun Q0 q0 => ?_
    simp only [↓bO, go_sem, seval]
    refine CCalls.atP (PId_c { S with F := F1 } (r : Int)) (i0 := 0) (i1 := 1) (i2 := 2) (i3 := 3) (i4 := 4) (i5 := 5) (i6 := 6) (i7 := 7) (by exact ⟨.agg ⟨.ptr rfl, .v _, trivial⟩, trivial⟩) (fun _ => by exact .v _) (by decide) (by simp) ⟨rfl, rfl, rfl, rfl, rfl, rfl, rfl, rfl, trivial⟩ (fun Z3 u3 hZ3 => ?_)
    try dsimp only at hZ3
    simp only [cObsAt, List.zip_cons_cons, List.zip_nil_left, List.zip_nil_right, putsO, putO, Nat.reduceEqDiff, ↓reduceIte]
    obtain rfl : { S with F := F1 } = Z3 := hZ3.symm
    try simp only [bS, bA]
    refine q0 _ ⟨⟨rfl, rfl, rfl, rfl, rfl, rfl, trivial⟩, ?_⟩
    clear q0 Q0
    refine NAny_all1 (i := 15) (by kernel_rfl) rfl (fun d h => by cases h; rfl) ?_
    refine aAt_if rfl fun Q0 q0 => ?_
    simp only [↓bO, go_sem, seval]
    refine q0 _ ⟨⟨rfl, rfl, rfl, rfl, rfl, rfl, trivial⟩, ?_⟩
    clear q0 Q0
    refine NAny_all1 (i := 16) (by kernel_rfl) rfl (fun d h => by cases h; rfl) ?_
    refine aAt_op rfl rfl fun Q0 q0 => ?_
    simp only [↓bO, go_sem, seval]
    refine q0 _ ⟨⟨rfl, rfl, rfl, rfl, rfl, rfl, trivial⟩, ?_⟩
    clear q0 Q0
    refine NAny_done (by kernel_rfl) ?_
    simp only [thenQ, blockQ, noGotoQ]
    refine y1 _ ?_
    try clear y1 Y1
    refine AWp_cond rfl (fun hb39 => ?_) (fun hb39 => ?_)
    ·
     exact absurd hb39 (by first | (simp; done) | (simp; omega))
    ·
     refine AWp_skip ?_
     try simp only [thenQ, blockQ, noGotoQ]
     refine y0 _ ?_
     try clear y0 Y0
     refine AWp_seqK fun Y0 y0 => ?_
     refine AWp_region ?_
     iterate 2 (refine aops_chunk 1 fun Q0 q0 => ?_; simp only [↓bO, go_sem, seval]; refine q0 _ ?_; clear q0 Q0; simp only [go_sem])
     refine aops_chunk 1 fun Q0 q0 => ?_
     simp only [↓bO, go_sem, seval]
     refine APure.call (Whole_pure M c i hi hcl hMl) ?_
     try simp only [bS, bA, thenQ, blockQ, noGotoQ]
     refine q0 _ ?_
     clear q0 Q0
     simp only [go_sem]
     simp only [↓bO, go_sem, seval]
     refine y0 _ ?_
     try clear y0 Y0
     refine AWp_seqK fun Y0 y0 => ?_
     refine AWp_region ?_
     refine aops_chunk 1 fun Q0 q0 => ?_
     simp only [↓bO, go_sem, seval]
     refine q0 _ ?_
     clear q0 Q0
     simp only [go_sem]
     refine aops_chunk 1 fun Q0 q0 => ?_
     simp only [↓bO, go_sem, seval]
     refine CCalls.atP (R' := fun s => .sl 2 (s.map (partC 0))) (PParts_c { S with F := F1 } hF1.inv hC.pl hC.wr r x hx (fun h9 => by dsimp only; rw [hF1.len]; exact hP.g0 h9)) (i0 := 0) (i1 := 1) (i2 := 2) (i3 := 3) (i4 := 4) (i5 := 5) (i6 := 6) (i7 := 7) (by exact ⟨.agg ⟨.ptr rfl, .v _, trivial⟩, trivial⟩) (fun _ => by exact .parts rfl _) (by decide) (by simp) ⟨rfl, rfl, rfl, rfl, rfl, rfl, rfl, rfl, trivial⟩ (fun Z4 rs hZ4 => ?_)
     try dsimp only at hZ4
     simp only [cObsAt, List.zip_cons_cons, List.zip_nil_left, List.zip_nil_right, putsO, putO, Nat.reduceEqDiff, ↓reduceIte]
     obtain ⟨F2, rfl⟩ : ∃ F2, Z4 = { S with F := F2 } := ⟨Z4.F, hZ4.2.1⟩
     have hF2 : FSame S.F F2 := hF1.trans hZ4.1
     have hRs : Roots S x rs := by (rcases hZ4.2.2 with h9 | ⟨h1, g, h2, h3, h4⟩; exact .inl h9; exact .inr ⟨h1, g, h2, h3, fun j p q hp hq => (hF1.rt _ _).1 (h4 j p q hp hq)⟩)
     try simp only [bS, bA, thenQ, blockQ, noGotoQ]
     refine q0 _ ?_
     clear q0 Q0
     simp only [go_sem]
     simp only [↓bO, go_sem, seval]
     refine y0 _ ?_
     try clear y0 Y0
     refine AWp_seqK fun Y0 y0 => ?_
     refine AWp_seqK fun Y1 y1 => ?_
     refine AWp_region ?_
     iterate 3 (refine aops_chunk 1 fun Q0 q0 => ?_; simp only [↓bO, go_sem, seval]; refine q0 _ ?_; clear q0 Q0; simp only [go_sem])
     refine aops_case 47 rfl (fun hc47 => ?_) (fun hc47 => ?_)
     ·
      simp only [List.set_cons_zero, List.set_cons_succ]
      have hw0 : wholeI M c i < 0 := by simpa using hc47
      have hrs0 : rs = [] := by (rcases hRs with ⟨_, h9⟩ | ⟨h9, _⟩; exact h9; exact absurd (hP.neg.2 hw0) (by omega))
      subst hrs0
      iterate 2 (refine aops_chunk 1 fun Q0 q0 => ?_; simp only [↓bO, go_sem, seval]; refine q0 _ ?_; clear q0 Q0; simp only [go_sem])
      simp only [↓bO, go_sem, seval]
      refine y1 _ ?_
      try clear y1 Y1
      refine AWp_cond (b := true) (by first | exact rfl | exact congrArg (fun b => AV.v (.bool b)) hb50) (fun _ => ?_) (fun h => (by cases h))
      refine AWp_seqK fun Y1 y1 => ?_
      refine AWp_region ?_
      iterate 3 (refine aops_chunk 1 fun Q0 q0 => ?_; simp only [↓bO, go_sem, seval]; refine q0 _ ?_; clear q0 Q0; simp only [go_sem])
      refine aops_case 53 rfl (fun hc53 => ?_) (fun hc53 => ?_)
      ·
       simp only [List.set_cons_zero, List.set_cons_succ]
       skip
       iterate 4 (refine aops_chunk 1 fun Q0 q0 => ?_; simp only [↓bO, go_sem, seval]; refine q0 _ ?_; clear q0 Q0; simp only [go_sem])
       simp only [↓bO, go_sem, seval]
       refine y1 _ ?_
       try clear y1 Y1
       refine AWp_ret ?_
       try simp only [thenQ, blockQ, noGotoQ, retQ, aRes, tupOf, bS, bA]
       refine ⟨_, enumO 0 (cObs ({ S with F := F2 })), ⟨({ S with F := F2 }, ()), ?_, rfl, rfl⟩, .v _ _, cUnd (by omega) _, ?_, ?_, by omega⟩
       · exact ⟨hF2, rfl⟩
       ·
        first | exact Le.refl _ | (refine Le.of_eq ?_; simp; done) | (refine Le.of_eq ?_; simp; omega) | (exfalso; exact absurd hc53 (by first | (simp; done) | (simp; omega)))
       · first | (refine ⟨0, rfl, rfl⟩) | (refine ⟨0, by simp only [cObs, enumO, List.drop_zero, List.drop_succ_cons, Nat.reduceAdd], rfl⟩)
      ·
       simp only [List.set_cons_zero, List.set_cons_succ]
       skip
       iterate 4 (refine aops_chunk 1 fun Q0 q0 => ?_; simp only [↓bO, go_sem, seval]; refine q0 _ ?_; clear q0 Q0; simp only [go_sem])
       simp only [↓bO, go_sem, seval]
       refine y1 _ ?_
       try clear y1 Y1
       refine AWp_ret ?_
       try simp only [thenQ, blockQ, noGotoQ, retQ, aRes, tupOf, bS, bA]
       refine ⟨_, enumO 0 (cObs ({ S with F := F2 })), ⟨({ S with F := F2 }, ()), ?_, rfl, rfl⟩, .v _ _, cUnd (by omega) _, ?_, ?_, by omega⟩
       · exact ⟨hF2, rfl⟩
       ·
        first | exact Le.refl _ | (refine Le.of_eq ?_; simp; done) | (refine Le.of_eq ?_; simp; omega) | (exfalso; exact absurd hc53 (by first | (simp; done) | (simp; omega)))
       · first | (refine ⟨0, rfl, rfl⟩) | (refine ⟨0, by simp only [cObs, enumO, List.drop_zero, List.drop_succ_cons, Nat.reduceAdd], rfl⟩)
     ·
      simp only [List.set_cons_zero, List.set_cons_succ]
      have hw0 : ¬ wholeI M c i < 0 := by simpa using hc47
      obtain ⟨k, y, hwk, hk, hy, hlen, hl8, hall⟩ := hP.roots hRs hw0
      have hkM : (k : Int) < (M.length : Int) := by omega
      iterate 2 (refine aops_chunk 1 fun Q0 q0 => ?_; simp only [↓bO, go_sem, seval, hwk, hkM, gM hy, RNode.cells]; refine q0 _ ?_; clear q0 Q0; simp only [go_sem])
      simp only [↓bO, go_sem, seval, hwk, hkM, gM hy, RNode.cells]
      refine y1 _ ?_
      try clear y1 Y1
      refine AWp_cond rfl (fun hb50 => ?_) (fun hb50 => ?_)
      ·
       skip
       refine AWp_seqK fun Y1 y1 => ?_
       refine AWp_region ?_
       iterate 3 (refine aops_chunk 1 fun Q0 q0 => ?_; simp only [↓bO, go_sem, seval, hwk, hkM, gM hy, RNode.cells]; refine q0 _ ?_; clear q0 Q0; simp only [go_sem])
       refine aops_case 53 rfl (fun hc53 => ?_) (fun hc53 => ?_)
       ·
        simp only [List.set_cons_zero, List.set_cons_succ]
        skip
        iterate 4 (refine aops_chunk 1 fun Q0 q0 => ?_; simp only [↓bO, go_sem, seval, hwk, hkM, gM hy, RNode.cells]; refine q0 _ ?_; clear q0 Q0; simp only [go_sem])
        simp only [↓bO, go_sem, seval, hwk, hkM, gM hy, RNode.cells]
        refine y1 _ ?_
        try clear y1 Y1
        refine AWp_ret ?_
        try simp only [thenQ, blockQ, noGotoQ, retQ, aRes, tupOf, bS, bA]
        refine ⟨_, enumO 0 (cObs ({ S with F := F2 })), ⟨({ S with F := F2 }, ()), ?_, rfl, rfl⟩, .v _ _, cUnd (by omega) _, ?_, ?_, by omega⟩
        · exact ⟨hF2, rfl⟩
        ·
         first | exact Le.refl _ | (refine Le.of_eq ?_; simp; done) | (refine Le.of_eq ?_; simp; omega) | (exfalso; exact absurd hc53 (by first | (simp; done) | (simp; omega)))
        · first | (refine ⟨0, rfl, rfl⟩) | (refine ⟨0, by simp only [cObs, enumO, List.drop_zero, List.drop_succ_cons, Nat.reduceAdd], rfl⟩)
       ·
        simp only [List.set_cons_zero, List.set_cons_succ]
        skip
        iterate 4 (refine aops_chunk 1 fun Q0 q0 => ?_; simp only [↓bO, go_sem, seval, hwk, hkM, gM hy, RNode.cells]; refine q0 _ ?_; clear q0 Q0; simp only [go_sem])
        simp only [↓bO, go_sem, seval, hwk, hkM, gM hy, RNode.cells]
        refine y1 _ ?_
        try clear y1 Y1
        refine AWp_ret ?_
        try simp only [thenQ, blockQ, noGotoQ, retQ, aRes, tupOf, bS, bA]
        refine ⟨_, enumO 0 (cObs ({ S with F := F2 })), ⟨({ S with F := F2 }, ()), ?_, rfl, rfl⟩, .v _ _, cUnd (by omega) _, ?_, ?_, by omega⟩
        · exact ⟨hF2, rfl⟩
        ·
         first | exact Le.refl _ | (refine Le.of_eq ?_; simp; done) | (refine Le.of_eq ?_; simp; omega) | (exfalso; exact absurd hc53 (by first | (simp; done) | (simp; omega)))
        · first | (refine ⟨0, rfl, rfl⟩) | (refine ⟨0, by simp only [cObs, enumO, List.drop_zero, List.drop_succ_cons, Nat.reduceAdd], rfl⟩)
      ·
       have hd0 : 1 ≤ deep := by (have h9 : ¬ (deep : Int) = 0 := (by simpa using hb50); omega)
       have hwd : IntKind.i64.wrap ((deep : Int) - 1) = ((deep - 1 : Nat) : Int) := by rw [show ((deep : Int) - 1) = ((deep - 1 : Nat) : Int) from by omega]; exact wrap_in (by omega) (by omega)
       refine AWp_skip ?_
       try simp only [thenQ, blockQ, noGotoQ]
       refine y0 _ ?_
       try clear y0 Y0
       refine AWp_seqK fun Y0 y0 => ?_
       refine AWp_seqK fun Y1 y1 => ?_
       refine AWp_region ?_
       iterate 9 (refine aops_chunk 1 fun Q0 q0 => ?_; simp only [↓bO, go_sem, seval, hwk, hkM, gM hy, RNode.cells, hwd]; refine q0 _ ?_; clear q0 Q0; simp only [go_sem])
       simp only [↓bO, go_sem, seval, hwk, hkM, gM hy, RNode.cells, hwd]
       refine y1 _ ?_
       try clear y1 Y1
       refine AWp_cond rfl (fun hb67 => ?_) (fun hb67 => ?_)
       ·
        exact absurd hb67 (by first | (simp; done) | (simp; omega))
       ·
        refine AWp_skip ?_
        try simp only [thenQ, blockQ, noGotoQ]
        refine y0 _ ?_
        try clear y0 Y0
        refine AWp_seqK fun Y0 y0 => ?_
        refine AWp_seqK fun Y1 y1 => ?_
        refine AWp_region ?_
        simp only [↓bO, go_sem, seval, hwk, hkM, gM hy, RNode.cells, hwd]
        refine y1 _ ?_
        try clear y1 Y1
        refine AWp_block ?_
        refine AWp_loopM (σ := FS × Nat) (mB 92 14376) (fun s => FSame S.F s.1 ∧ s.2 ≤ rs.length) (fun s => [(13, .v (.int .i64 (s.2 : Int)))]) (fun s => [(4, .cells 115 [.own 5 s.1.up.length, .own 6 s.1.rank.length, .v (.int .i64 s.1.sets), .v (.int .i64 s.1.steps)]), (5, .row 3 1 (s.1.up.map nC)), (6, .row 3 1 (s.1.rank.map intC))]) (fun s => rs.length - s.2) (F2, 0) (⟨hF2, Nat.zero_le _⟩) ?_ (fun s hs => ?_)
        ·
         simp only [maskL, setsL, putsO, putO, mB, List.set_cons_zero, List.set_cons_succ, seval]
         exact Weak.mk (by simp only [go_sem, Le.refl, Le.any, Le.slNil, Int.natCast_add, Int.cast_ofNat_Int, Int.natCast_one]) (fun _ _ h => h) rfl rfl
        simp only [maskL, setsL, putsO, putO, mB, List.set_cons_zero, List.set_cons_succ, seval]
        refine AWp_seqK fun Y1 y1 => ?_
        refine AWp_seqK fun Y2 y2 => ?_
        refine AWp_region ?_
        iterate 3 (refine aops_chunk 1 fun Q0 q0 => ?_; simp only [↓bO, go_sem, seval, hwk, hkM, gM hy, RNode.cells, hwd]; refine q0 _ ?_; clear q0 Q0; simp only [go_sem])
        simp only [↓bO, go_sem, seval, hwk, hkM, gM hy, RNode.cells, hwd]
        refine y2 _ ?_
        try clear y2 Y2
        refine AWp_cond rfl (fun hb71 => ?_) (fun hb71 => ?_)
        ·
         have hkj : s.2 < rs.length := by simpa using hb71
         obtain ⟨r2, hr2⟩ : ∃ z, rs[s.2]? = some z := ⟨_, List.getElem?_eq_getElem hkj⟩
         obtain ⟨q, hyq, hq, hqr⟩ := hall s.2 r2 hr2
         have hw1 : IntKind.i64.wrap ((s.2 : Int) + 1) = (s.2 : Int) + 1 := wrap_in (by omega) (by omega)
         have hjy := (List.getElem?_eq_some_iff.1 hyq).1
         refine AWp_skip ?_
         try simp only [thenQ, blockQ, noGotoQ]
         refine y1 _ ?_
         try clear y1 Y1
         refine AWp_seqK fun Y1 y1 => ?_
         refine AWp_block ?_
         refine AWp_seqK fun Y2 y2 => ?_
         refine AWp_drawK 16 mixed (by kernel_rfl) fun J0 j0 => ?_
         iterate 15 (simp only [go_sem]; refine dRun_chunk 1 fun Q0 q0 => ?_; simp only [↓dRun, ↓dOp, ↓bO, go_sem, seval, hkj, hjy, gM hr2, gM hyq, partC, intC, hw1, Int.natCast_add, hwk, hkM, gM hy, RNode.cells, hwd]; refine q0 _ ?_; clear q0 Q0)
         simp only [go_sem]
         simp only [↓dRun, ↓dOp, ↓bO, go_sem, seval, hkj, hjy, gM hr2, gM hyq, partC, intC, hw1, Int.natCast_add, hwk, hkM, gM hy, RNode.cells, hwd]
         refine j0 _ ?_
         clear j0 J0
         simp only [go_sem]
         refine aops_chunk 1 fun Q0 q0 => ?_
         simp only [↓bO, go_sem, seval, hkj, hjy, gM hr2, gM hyq, partC, intC, hw1, Int.natCast_add, hwk, hkM, gM hy, RNode.cells, hwd]
         refine CCalls.atP (ih (deep - 1) (by omega) { S with F := s.1 } (hS.fsame hs.1) q r2 (by omega) hq (((hs.1.rt _ _).2 hqr))) (i0 := 0) (i1 := 1) (i2 := 2) (i3 := 3) (i4 := 4) (i5 := 5) (i6 := 6) (i7 := 7) (by exact ⟨.agg ⟨.ptr rfl, .v _, trivial⟩, .data (RNode.oneData _ _), .v _, .v _, trivial⟩) (fun _ => by exact .v _) (by decide) (by simp) ⟨rfl, rfl, rfl, rfl, rfl, rfl, rfl, rfl, trivial⟩ (fun Z5 u5 hZ5 => ?_)
         try dsimp only at hZ5
         simp only [cObsAt, List.zip_cons_cons, List.zip_nil_left, List.zip_nil_right, putsO, putO, Nat.reduceEqDiff, ↓reduceIte]
         obtain ⟨F3, rfl⟩ : ∃ F, Z5 = { S with F := F } := ⟨Z5.F, hZ5.2⟩
         have hF3 : FSame S.F F3 := hs.1.trans hZ5.1
         try simp only [bS, bA, thenQ, blockQ, noGotoQ]
         refine q0 _ ?_
         clear q0 Q0
         simp only [go_sem]
         simp only [↓bO, go_sem, seval, hkj, hjy, gM hr2, gM hyq, partC, intC, hw1, Int.natCast_add, hwk, hkM, gM hy, RNode.cells, hwd]
         refine y2 _ ?_
         try clear y2 Y2
         refine AWp_cond rfl (fun hb91 => ?_) (fun hb91 => ?_)
         ·
          exact absurd hb91 (by simp)
         ·
          refine AWp_skip ?_
          try simp only [thenQ, blockQ, noGotoQ]
          refine y1 _ ?_
          try clear y1 Y1
          refine AWp_region ?_
          iterate 2 (refine aops_chunk 1 fun Q0 q0 => ?_; simp only [↓bO, go_sem, seval, hkj, hjy, gM hr2, gM hyq, partC, intC, hw1, Int.natCast_add, hwk, hkM, gM hy, RNode.cells, hwd]; refine q0 _ ?_; clear q0 Q0; simp only [go_sem])
          simp only [↓bO, go_sem, seval, hkj, hjy, gM hr2, gM hyq, partC, intC, hw1, Int.natCast_add, hwk, hkM, gM hy, RNode.cells, hwd]
          refine ⟨(F3, s.2 + 1), ⟨hF3, by simp only; omega⟩, (by simp only; omega), ?_⟩
          simp only [maskL, setsL, putsO, putO, mB, List.set_cons_zero, List.set_cons_succ, seval, hkj, hjy, gM hr2, gM hyq, partC, intC, hw1, Int.natCast_add, Int.natCast_one, Int.cast_ofNat_Int, hwk, hkM, gM hy, RNode.cells, hwd]
          exact Weak.mk (by simp only [go_sem, Le.refl, Le.any, Le.slNil, Int.natCast_add, Int.cast_ofNat_Int, Int.natCast_one]) (fun _ _ h => h) rfl rfl
        ·
         refine AWp_exit ?_
         simp only [thenQ, blockQ, noGotoQ, bA, Nat.reduceEqDiff, ↓reduceIte]
         refine y0 _ ?_
         try clear y0 Y0
         refine AWp_seqK fun Y0 y0 => ?_
         refine AWp_region ?_
         simp only [↓bO, go_sem, seval, hwk, hkM, gM hy, RNode.cells, hwd]
         refine y0 _ ?_
         try clear y0 Y0
         refine AWp_ret ?_
         try simp only [thenQ, blockQ, noGotoQ, retQ, aRes, tupOf, bS, bA]
         refine ⟨_, enumO 0 (cObs ({ S with F := s.1 })), ⟨({ S with F := s.1 }, ()), ?_, rfl, rfl⟩, .v _ _, cUnd (by omega) _, ?_, ?_, by omega⟩
         · exact ⟨hs.1, rfl⟩
         ·
          first | exact Le.refl _ | (refine Le.of_eq ?_; simp; done) | (refine Le.of_eq ?_; simp; omega) | (exfalso; exact absurd hc53 (by first | (simp; done) | (simp; omega)))
         · first | (refine ⟨0, rfl, rfl⟩) | (refine ⟨0, by simp only [cObs, enumO, List.drop_zero, List.drop_succ_cons, Nat.reduceAdd], rfl⟩)
end Go.Proofs.Ytjjjckjebkmnjaa
namespace Go.Proofs.Ytjjjckjebkmnjaa
open Go Go.RowKit
theorem var_at {l : List (Ty × Ty)} {M : List RNode} {c : List Int} {S : CS} (h : PSt l M c S) {a : Int} {q : Nat} (hq : idxI (RNode.isVar a) M = (q : Int)) : vfind S.G.V a = some (q : Int) := by
  have hm := h.m
  subst hm
  rcases h.h.vf a with ⟨_, h2⟩ | ⟨j, h1, h2, h3⟩
  · omega
  · obtain rfl : j = q := by omega
    exact h1
theorem PSt.g0 {l : List (Ty × Ty)} {M : List RNode} {c : List Int} {S : CS} (h : PSt l M c S) : ∀ (r : Nat) (x : Int), Rt S.F.up r r → S.W[r]? = some x → 0 ≤ x → ∃ g, S.G.N[x.toNat]? = some g ∧ 1 ≤ g.k ∧ g.parts.length ≤ 8 ∧ ∀ p ∈ g.parts, 0 ≤ p ∧ p < (S.F.up.length : Int) := fun r x hr hx h0 =>
  (h.part (by rw [← h.nl]; exact hr.lt) hr hx).g0 h0
theorem okb_eq {M : List RNode} {c : List Int} {S : CS} {q : Nat} {x : Int} {okb : Bool} (h : PAt M c S q x) (hr : (x < 0 ∧ okb = false) ∨ (0 ≤ x ∧ okb = true)) : okb = decide (0 ≤ wholeI M c q) := by
  have h1 := h.neg
  rcases hr with ⟨h2, rfl⟩ | ⟨h2, rfl⟩
  · exact (decide_eq_false (by omega)).symm
  · exact (decide_eq_true (by omega)).symm
theorem id_same {l : List (Ty × Ty)} {M : List RNode} {c : List Int} {S : CS} (h : PSt l M c S) {F5 : FS} (hF : FSame S.F F5) {a b : Int} {q p r1 r2 : Nat} {t : Bool} (ha : vfind S.G.V a = some (q : Int)) (hb : vfind S.G.V b = some (p : Int)) (h1 : Rt S.F.up q r1) (h2 : Rt S.F.up p r2)
    (ht : t = true ↔ S.clash = false ∧ ∃ i k, vfind S.G.V a = some i ∧ vfind S.G.V b = some k ∧ One F5.up i.toNat k.toNat) : t = ((r2 : Int) == (r1 : Int)) := by
  rw [Bool.eq_iff_iff, ht, beq_iff_eq]
  have key : One F5.up q p ↔ r1 = r2 := (One.congr hF.rt).trans (One.of_rt h1 h2)
  constructor
  · rintro ⟨_, i, k, e1, e2, e3⟩
    rw [ha] at e1; rw [hb] at e2
    cases e1; cases e2
    rw [Int.toNat_natCast, Int.toNat_natCast] at e3
    have := key.1 e3
    omega
  · intro e
    exact ⟨h.h.1, _, _, ha, hb, by rw [Int.toNat_natCast, Int.toNat_natCast]; exact key.2 (by omega)⟩
theorem rs_nil {M : List RNode} {c : List Int} {S : CS} {q : Nat} {x : Int} {rs : List Nat} (h : PAt M c S q x) (hr : Roots S x rs) (hw : decide (0 ≤ wholeI M c q) = false) : rs = [] := by
  have h1 := h.neg
  have h2 := of_decide_eq_false hw
  rcases hr with ⟨_, h8⟩ | ⟨h8, _⟩
  · exact h8
  · omega
end Go.Proofs.Ytjjjckjebkmnjaa
