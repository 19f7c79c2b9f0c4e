/- Texts of the abstract walk, of the contracts and of the plain laws, packed (part 47 of 47): UmK UcS UnA Ur4 Up3 Uparts. Conditions: none. -/
import Derived.Test.YtjjjckjebkmnjaaPk46
import Derived.Test.YtjjjckjebkmnjaaRows
import Derived.OpenShut
import Derived.ChangeOld
import Derived.Below
namespace Go.Proofs.Ytjjjckjebkmnjaa
open Go Go.RowKit
theorem rights_okE (es : List EqT) (h : sumP (es.map EqT.p) ≤ 160) : sumP ((rightsE es).map EqT.p) ≤ 160 ∧ OkE ((rightsE es).map EqT.p) := by
  have key : ∀ l : List EqT, sumP ((rightsE l).map EqT.p) ≤ sumP (l.map EqT.p) := fun l => by
    induction l with
    | nil => simp [rightsE]
    | cons e l ih =>
      unfold rightsE at ih ⊢
      rw [List.filter_cons]
      split
      · simp only [List.map_cons, sumP]; omega
      · simp only [List.map_cons, sumP]; omega
  have h1 := key es
  refine ⟨by omega, fun e he => ?_⟩
  have h2 := sumP_mem he
  obtain ⟨x, hx, rfl⟩ := List.mem_map.1 he
  have h3 := (List.mem_filter.1 hx).2
  simp only [EqT.ok, Bool.and_eq_true] at h3
  exact ⟨h3.1, h3.2, by omega, by omega⟩
end Go.Proofs.Ytjjjckjebkmnjaa
namespace Go.Proofs.Ytjjjckjebkmnjaa
open Go Go.RowKit
abbrev plE (es : List EqT) (k : Nat) : List (Ty × Ty) := (rightsE (es.take k)).map EqT.p
structure ClI (es : List EqT) (k : Nat) (S : CS) (sum was : Int) : Prop where
  st : CSt (plE es k) S
  num : S.clash = false → sum = 1 + (sumP (plE es k) : Int) ∧ was = S.steps
  low : S.clash = false → 0 ≤ S.steps ∧ S.steps + 9 * (nroots S.F.up : Int) ≤ 10 * (S.G.N.length : Int) + (k : Int)
theorem ClI.start (es : List EqT) : ClI es 0 CS0 1 0 := ⟨CSt.none, fun _ => ⟨by simp [plE, rightsE, sumP], rfl⟩, fun _ => by simp [CS0, nroots]⟩
theorem plE_no {es : List EqT} {k : Nat} {e : EqT} (he : es[k]? = some e) (h : e.ok = false) : plE es (k + 1) = plE es k := by
  unfold plE; rw [rightsE_no he h]
theorem plE_yes {es : List EqT} {k : Nat} {e : EqT} (he : es[k]? = some e) (h : e.ok = true) : plE es (k + 1) = plE es k ++ [e.p] := by
  unfold plE; rw [rightsE_yes he h, List.map_append]; rfl
theorem plE_sum {es : List EqT} (h : sumP (es.map EqT.p) ≤ 160) (k : Nat) : sumP (plE es k) ≤ 160 ∧ OkE (plE es k) := by
  have h1 := sumP_take (es.map EqT.p) k
  exact rights_okE (es.take k) (by rw [List.map_take]; omega)
theorem eok_of {e : EqT} (h : e.ok = true) : e.l.right = true ∧ e.r.right = true := by
  simpa [EqT.ok] using h
theorem ClI.step {es : List EqT} {k : Nat} {S : CS} {sum was : Int} {e : EqT} {s : CS × Int} (h : ClI es k S sum was) (hs : sumP (es.map EqT.p) ≤ 160) (he : es[k]? = some e)
    (hE : EqR S (nat2 (eqF (plE es k)).2) (eqF (plE es k)).1 e.l e.r s) : CSt (plE es (k + 1)) s.1 := by
  have hm : e.p ∈ es.map EqT.p := List.mem_map.2 ⟨e, List.mem_of_getElem? he, rfl⟩
  have h1 := sumP_mem hm
  simp only [EqT.p] at h1
  cases hok : e.ok with
  | true =>
    obtain ⟨h2, h3⟩ := eok_of hok
    rw [plE_yes he hok]
    exact h.st.step (e := e.p) ⟨h2, h3, by simp only [EqT.p]; omega, by simp only [EqT.p]; omega⟩ hE
  | false =>
    rw [plE_no he hok]
    rcases hE with ⟨_, rfl⟩ | ⟨_, _, rfl⟩ | ⟨_, h2, h3, _⟩
    · exact h.st
    · exact h.st
    · rw [EqT.ok, h2, h3] at hok; cases hok
theorem ClI.bad {es : List EqT} {k : Nat} {S : CS} {sum was : Int} {e : EqT} {s : CS × Int} (h : ClI es k S sum was) (hs : sumP (es.map EqT.p) ≤ 160) (he : es[k]? = some e)
    (hE : EqR S (nat2 (eqF (plE es k)).2) (eqF (plE es k)).1 e.l e.r s) (hc : S.clash = true) : s = (S, 7) ∧ ClI es (k + 1) S sum was := by
  have h1 := h.step hs he hE
  rcases hE with ⟨_, rfl⟩ | ⟨h2, _⟩ | ⟨h2, _⟩
  · exact ⟨rfl, h1, fun h2 => (by rw [hc] at h2; cases h2), fun h2 => (by rw [hc] at h2; cases h2)⟩
  · rw [hc] at h2; cases h2
  · rw [hc] at h2; cases h2
theorem ClI.good {es : List EqT} {k : Nat} {S : CS} {sum was : Int} {e : EqT} {s : CS × Int} (h : ClI es k S sum was) (hs : sumP (es.map EqT.p) ≤ 160) (hk : k < 1000) (he : es[k]? = some e)
    (hE : EqR S (nat2 (eqF (plE es k)).2) (eqF (plE es k)).1 e.l e.r s) (hR : StepR S s.1) (hc : S.clash = false) (hok : e.ok = true) :
    ClI es (k + 1) s.1 (sum + (e.l.cnt : Int) + (e.r.cnt : Int)) s.1.steps ∧ s.2 = (if s.1.clash = true then 7 else 0) ∧ S.steps ≤ s.1.steps ∧ s.1.steps ≤ 10 * (sumP (plE es (k + 1)) : Int) + (k : Int) + 1 ∧
      sum + (e.l.cnt : Int) + (e.r.cnt : Int) = 1 + (sumP (plE es (k + 1)) : Int) := by
  have h1 := h.step hs he hE
  obtain ⟨h3, h3'⟩ := h.num hc
  obtain ⟨h4, h5⟩ := h.low hc
  have hN := h.st.len
  have hP := (plE_sum hs k).1
  have hN1 := h1.len
  have hsum : sumP (plE es (k + 1)) = sumP (plE es k) + (e.l.cnt + e.r.cnt) := by
    rw [plE_yes he hok, sumP_snoc]; rfl
  have hst : S.steps ≤ s.1.steps ∧ s.1.steps + 9 * (nroots s.1.F.up : Int) ≤ 10 * (s.1.G.N.length : Int) + (k : Int) + 1 := by
    rcases hR with e1 | hR
    · rw [e1]; omega
    · obtain ⟨a1, a2, a3⟩ := hR h4 (by omega)
      omega
  have hr : s.2 = (if s.1.clash = true then 7 else 0) := by
    obtain ⟨g1, g2⟩ := eok_of hok
    rcases hE with ⟨h2, _⟩ | ⟨_, h2, _⟩ | ⟨_, _, _, _, ⟨a1, a2, _⟩ | ⟨a1, a2, _⟩⟩
    · rw [hc] at h2; cases h2
    · rw [g1, g2] at h2; cases h2
    · rw [a1, a2]; rfl
    · rw [a1, a2]; rfl
  refine ⟨⟨h1, fun _ => ⟨by omega, rfl⟩, fun _ => ⟨by omega, ?_⟩⟩, hr, hst.1, by omega, by omega⟩
  have := hst.2
  omega
end Go.Proofs.Ytjjjckjebkmnjaa
namespace Go.Proofs.Ytjjjckjebkmnjaa
open Go Go.RowKit
set_option maxRecDepth 100000
set_option maxHeartbeats 4000000
set_option linter.unusedSimpArgs false
set_option linter.unusedVariables false
attribute [local irreducible] aops dRun
theorem awake12_pure : APure Try.prog 10 [] (.v (.bool true)) := by
  refine APure.mkL (.nil) (.v _) ?_
  refine ACalls_intro Try.func10 (by kernel_rfl) rfl (by rw [Try.ntmps10]; simp) (fun hm => ?_)
  simp only [Try.ntmps10, Try.results10, List.length_cons, List.length_nil, Nat.reduceAdd, Nat.reduceSub, List.replicate_succ, List.replicate_zero, List.cons_append, List.nil_append]
  refine AWp_seqK fun Y0 y0 => ?_
  refine AWp_region ?_
  simp only [↓bO, go_sem, seval]
  refine y0 _ ?_
  try clear y0 Y0
  refine AWp_seqK fun Y0 y0 => ?_
  refine AWp_region ?_
  refine aops_chunk 1 fun Q0 q0 => ?_
  simp only [↓bO, go_sem, seval]
  refine VNew_calls.mono ?_
  rintro r os' nx' ⟨⟨rfl, rfl⟩, rfl⟩
  try simp only [bS, bA, thenQ, blockQ, noGotoQ]
  refine q0 _ ?_
  clear q0 Q0
  simp only [go_sem]
  simp only [↓bO, go_sem, seval]
  refine y0 _ ?_
  try clear y0 Y0
  refine AWp_weak (Weak.rowCell 3 1 0 (id := 0) rfl rfl) ?_
  simp only [newOs, putO, Nat.reduceEqDiff, ↓reduceIte, List.set_cons_zero, List.set_cons_succ]
  refine AWp_weak (Weak.rowCell 3 1 1 (id := 0) rfl rfl) ?_
  simp only [putO, Nat.reduceEqDiff, ↓reduceIte, List.set_cons_zero, List.set_cons_succ]
  refine AWp_weak (Weak.rowCell 3 1 3 (id := 3) rfl rfl) ?_
  simp only [putO, Nat.reduceEqDiff, ↓reduceIte, List.set_cons_zero, List.set_cons_succ]
  refine AWp_weak (Weak.tokCell 128 4 (id := 2) (t := 118) [.osl 7 4 ([].map GNode.cells), .map 1] rfl ⟨.inr ⟨rfl, rfl⟩, .inl (.refl _), trivial⟩) ?_
  simp only [putO, Nat.reduceEqDiff, ↓reduceIte, List.set_cons_zero, List.set_cons_succ]
  refine AWp_seqK fun Y0 y0 => ?_
  refine AWp_region ?_
  iterate 5 (refine aops_chunk 1 fun Q0 q0 => ?_; simp only [↓bO, go_sem, seval]; refine q0 _ ?_; clear q0 Q0; simp only [go_sem])
  simp only [↓bO, go_sem, seval]
  refine y0 _ ?_
  try clear y0 Y0
  refine AWp_weak (Weak.recell (id := 8) (t := 30) [.v (.int .i64 2), .v (.int .i64 0), .sl 3 []] rfl ⟨.refl _, .refl _, Le.slNil 3, trivial⟩) ?_
  simp only [putO, Nat.reduceEqDiff, ↓reduceIte]
  refine AWp_weak (Weak.recell (id := 9) (t := 30) [.v (.int .i64 3), .v (.int .i64 0), .sl 3 []] rfl ⟨.refl _, .refl _, Le.slNil 3, trivial⟩) ?_
  simp only [putO, Nat.reduceEqDiff, ↓reduceIte]
  refine AWp_seqK fun Y0 y0 => ?_
  refine AWp_drawK 6 mixed (by kernel_rfl) fun J0 j0 => ?_
  simp only [go_sem]
  refine dRun_chunk 1 fun Q0 q0 => ?_
  simp only [↓dRun, ↓dOp, ↓bO, go_sem, seval]
  refine q0 _ ?_
  clear q0 Q0
  simp only [go_sem]
  refine dRun_chunk 1 fun Q0 q0 => ?_
  simp only [↓dRun, ↓dOp, ↓bO, go_sem, seval]
  refine ⟨_, TVar_pure 0, ?_⟩
  try simp only [bS, bA, thenQ, blockQ, noGotoQ]
  iterate 2 (refine q0 _ ?_; clear q0 Q0; simp only [go_sem]; refine dRun_chunk 1 fun Q0 q0 => ?_; simp only [↓dRun, ↓dOp, ↓bO, go_sem, seval])
  refine ⟨_, TVar_pure 1, ?_⟩
  try simp only [bS, bA, thenQ, blockQ, noGotoQ]
  refine q0 _ ?_
  clear q0 Q0
  simp only [go_sem]
  refine dRun_chunk 1 fun Q0 q0 => ?_
  simp only [↓dRun, ↓dOp, ↓bO, go_sem, seval, ↓bs2_1, ↓bs2_2, ↓bs2_3, ↓bs2_4, ↓bs2_5, ↓bs2_6, ↓bs2_7, ↓bs2_8, ↓bs2_9, ↓bs2_10, ↓bs2_11, ↓bs2_12]
  refine q0 _ ?_
  clear q0 Q0
  simp only [go_sem]
  simp only [↓dRun, ↓dOp, ↓bO, go_sem, seval]
  refine ⟨_, Arrow_pure 2 [.mk 2 0 [], .mk 1 1 []] rfl (by decide), ?_⟩
  try simp only [bS, bA, thenQ, blockQ, noGotoQ]
  refine j0 _ ?_
  clear j0 J0
  simp only [go_sem]
  refine aops_chunk 1 fun Q0 q0 => ?_
  simp only [↓bO, go_sem, seval]
  refine CCalls.at (Equate_c CS0 (nat2 (eqF []).2) (eqF []).1 (.mk 1 0 []) (arrowL [.mk 2 0 [], .mk 1 1 []]) (fun _ => Holds.none.2) (by decide) (by decide) (by decide)) (.cons (Ty.dataAgg _) (.cons (Ty.dataAgg _) .nil)) (fun _ => .v _) (i0 := 3) (i1 := 2) (i2 := 7) (i3 := 1) (i4 := 0) (i5 := 4) (i6 := 5) (i7 := 6) (by decide) (by simp) ⟨rfl, rfl, rfl, rfl, rfl, rfl, rfl, rfl, trivial⟩ (fun S1 r1 hE1 => ?_)
  try dsimp only at hE1
  simp only [cObsAt, List.zip_cons_cons, List.zip_nil_left, List.zip_nil_right, putsO, putO, Nat.reduceEqDiff, ↓reduceIte]
  obtain ⟨he1, hH1, hl1⟩ := aw_step1 hE1
  obtain rfl : r1 = 0 := he1
  dsimp only at hH1 hl1
  try simp only [bS, bA, thenQ, blockQ, noGotoQ]
  refine q0 _ ?_
  clear q0 Q0
  simp only [go_sem]
  simp only [↓bO, go_sem, seval]
  refine y0 _ ?_
  try clear y0 Y0
  refine AWp_seqK fun Y0 y0 => ?_
  refine AWp_drawK 6 mixed (by kernel_rfl) fun J0 j0 => ?_
  simp only [go_sem]
  refine dRun_chunk 1 fun Q0 q0 => ?_
  simp only [↓dRun, ↓dOp, ↓bO, go_sem, seval]
  refine q0 _ ?_
  clear q0 Q0
  simp only [go_sem]
  refine dRun_chunk 1 fun Q0 q0 => ?_
  simp only [↓dRun, ↓dOp, ↓bO, go_sem, seval]
  refine ⟨_, TVar_pure 0, ?_⟩
  try simp only [bS, bA, thenQ, blockQ, noGotoQ]
  refine q0 _ ?_
  clear q0 Q0
  simp only [go_sem]
  refine dRun_chunk 1 fun Q0 q0 => ?_
  simp only [↓dRun, ↓dOp, ↓bO, go_sem, seval]
  refine ⟨_, TVar_pure 2, ?_⟩
  try simp only [bS, bA, thenQ, blockQ, noGotoQ]
  refine q0 _ ?_
  clear q0 Q0
  simp only [go_sem]
  refine dRun_chunk 1 fun Q0 q0 => ?_
  simp only [↓dRun, ↓dOp, ↓bO, go_sem, seval]
  refine q0 _ ?_
  clear q0 Q0
  simp only [go_sem]
  refine dRun_chunk 1 fun Q0 q0 => ?_
  simp only [↓dRun, ↓dOp, ↓bO, go_sem, seval, ↓bs2_1, ↓bs2_2, ↓bs2_3, ↓bs2_4, ↓bs2_5, ↓bs2_6, ↓bs2_7, ↓bs2_8, ↓bs2_9, ↓bs2_10, ↓bs2_11, ↓bs2_12]
  refine q0 _ ?_
  clear q0 Q0
  simp only [go_sem]
  simp only [↓dRun, ↓dOp, ↓bO, go_sem, seval]
  refine ⟨_, Arrow_pure 2 [.mk 1 2 [], .mk 3 0 []] rfl (by decide), ?_⟩
  try simp only [bS, bA, thenQ, blockQ, noGotoQ]
  refine j0 _ ?_
  clear j0 J0
  simp only [go_sem]
  refine aops_chunk 1 fun Q0 q0 => ?_
  simp only [↓bO, go_sem, seval]
  refine CCalls.at (Equate_c S1 (nat2 (eqF [aw1]).2) (eqF [aw1]).1 (.mk 1 0 []) (arrowL [.mk 1 2 [], .mk 3 0 []]) (fun _ => hH1.2) (by simp only [Ty.cnt, Ty.cntL, arrowL]; omega) (by decide) (by decide)) (.cons (Ty.dataAgg _) (.cons (Ty.dataAgg _) .nil)) (fun _ => .v _) (i0 := 3) (i1 := 2) (i2 := 7) (i3 := 1) (i4 := 0) (i5 := 4) (i6 := 5) (i7 := 6) (by decide) (by simp) ⟨rfl, rfl, rfl, rfl, rfl, rfl, rfl, rfl, trivial⟩ (fun S2 r2 hE2 => ?_)
  try dsimp only at hE2
  simp only [cObsAt, List.zip_cons_cons, List.zip_nil_left, List.zip_nil_right, putsO, putO, Nat.reduceEqDiff, ↓reduceIte]
  obtain ⟨he2, hH2⟩ := aw_step2 hH1 hE2
  obtain rfl : r2 = 0 := he2
  dsimp only at hH2
  have hG2 := hH2.aw.2
  try simp only [bS, bA, thenQ, blockQ, noGotoQ]
  refine q0 _ ?_
  clear q0 Q0
  simp only [go_sem]
  simp only [↓bO, go_sem, seval]
  refine y0 _ ?_
  try clear y0 Y0
  refine AWp_seqK fun Y0 y0 => ?_
  refine AWp_region ?_
  iterate 3 (refine aops_chunk 1 fun Q0 q0 => ?_; simp only [↓bO, go_sem, seval]; refine q0 _ ?_; clear q0 Q0; simp only [go_sem])
  refine aops_case 25 rfl (fun hc25 => ?_) (fun hc25 => ?_)
  ·
   simp only [List.set_cons_zero, List.set_cons_succ]
   iterate 4 (refine aops_chunk 1 fun Q0 q0 => ?_; simp only [↓bO, go_sem, seval]; refine q0 _ ?_; clear q0 Q0; simp only [go_sem])
   refine aops_case 29 rfl (fun hc29 => ?_) (fun hc29 => ?_)
   ·
    simp only [List.set_cons_zero, List.set_cons_succ]
    iterate 4 (refine aops_chunk 1 fun Q0 q0 => ?_; simp only [↓bO, go_sem, seval]; refine q0 _ ?_; clear q0 Q0; simp only [go_sem])
    refine aops_case 33 rfl (fun hc33 => ?_) (fun hc33 => ?_)
    ·
     simp only [List.set_cons_zero, List.set_cons_succ]
     refine aops_chunk 1 fun Q0 q0 => ?_
     simp only [↓bO, go_sem, seval]
     refine q0 _ ?_
     clear q0 Q0
     simp only [go_sem]
     refine aops_chunk 1 fun Q0 q0 => ?_
     simp only [↓bO, go_sem, seval]
     refine CCalls.at (CKind_c S2 hG2.w.c.f hG2.w.c.fl hG2.w.c.wr hG2.vin 2) (.cons (.v _) .nil) (fun _ => .v _) (i0 := 3) (i1 := 2) (i2 := 7) (i3 := 1) (i4 := 0) (i5 := 4) (i6 := 5) (i7 := 6) (by decide) (by simp) ⟨rfl, rfl, rfl, rfl, rfl, rfl, rfl, rfl, trivial⟩ (fun S3 k2 hK3 => ?_)
     try dsimp only at hK3
     simp only [cObsAt, List.zip_cons_cons, List.zip_nil_left, List.zip_nil_right, putsO, putO, Nat.reduceEqDiff, ↓reduceIte]
     obtain ⟨hk3, hH3⟩ := aw_kind (s := (S3, k2)) hH2 aw_v2 (by omega) aw_14.symm rfl (by decide) hK3
     obtain rfl : k2 = 2 := hk3
     dsimp only at hH3
     have hG3 := hH3.aw.2
     try simp only [bS, bA, thenQ, blockQ, noGotoQ]
     iterate 3 (refine q0 _ ?_; clear q0 Q0; simp only [go_sem]; refine aops_chunk 1 fun Q0 q0 => ?_; simp only [↓bO, go_sem, seval])
     refine q0 _ ?_
     clear q0 Q0
     simp only [go_sem]
     refine aops_case 38 rfl (fun hc38 => ?_) (fun hc38 => ?_)
     ·
      simp only [List.set_cons_zero, List.set_cons_succ]
      refine aops_chunk 1 fun Q0 q0 => ?_
      simp only [↓bO, go_sem, seval]
      refine q0 _ ?_
      clear q0 Q0
      simp only [go_sem]
      refine aops_chunk 1 fun Q0 q0 => ?_
      simp only [↓bO, go_sem, seval]
      refine CCalls.at (CKind_c S3 hG3.w.c.f hG3.w.c.fl hG3.w.c.wr hG3.vin 1) (.cons (.v _) .nil) (fun _ => .v _) (i0 := 3) (i1 := 2) (i2 := 7) (i3 := 1) (i4 := 0) (i5 := 4) (i6 := 5) (i7 := 6) (by decide) (by simp) ⟨rfl, rfl, rfl, rfl, rfl, rfl, rfl, rfl, trivial⟩ (fun S4 k3 hK4 => ?_)
      try dsimp only at hK4
      simp only [cObsAt, List.zip_cons_cons, List.zip_nil_left, List.zip_nil_right, putsO, putO, Nat.reduceEqDiff, ↓reduceIte]
      obtain ⟨hk4, hH4⟩ := aw_kind (s := (S4, k3)) hH3 aw_v1 (by omega) aw_25 rfl (by decide) hK4
      obtain rfl : k3 = 3 := hk4
      dsimp only at hH4
      have hG4 := hH4.aw.2
      try simp only [bS, bA, thenQ, blockQ, noGotoQ]
      iterate 3 (refine q0 _ ?_; clear q0 Q0; simp only [go_sem]; refine aops_chunk 1 fun Q0 q0 => ?_; simp only [↓bO, go_sem, seval])
      refine q0 _ ?_
      clear q0 Q0
      simp only [go_sem]
      refine aops_case 43 rfl (fun hc43 => ?_) (fun hc43 => ?_)
      ·
       simp only [List.set_cons_zero, List.set_cons_succ]
       refine aops_chunk 1 fun Q0 q0 => ?_
       simp only [↓bO, go_sem, seval]
       refine q0 _ ?_
       clear q0 Q0
       simp only [go_sem]
       refine aops_chunk 1 fun Q0 q0 => ?_
       simp only [↓bO, go_sem, seval]
       refine CCalls.at (CSame_c S4 hG4.w.c.f hG4.vin 1 2) (.cons (.v _) (.cons (.v _) .nil)) (fun _ => .v _) (i0 := 3) (i1 := 2) (i2 := 7) (i3 := 1) (i4 := 0) (i5 := 4) (i6 := 5) (i7 := 6) (by decide) (by simp) ⟨rfl, rfl, rfl, rfl, rfl, rfl, rfl, rfl, trivial⟩ (fun S5 b5 hS5 => ?_)
       try dsimp only at hS5
       simp only [cObsAt, List.zip_cons_cons, List.zip_nil_left, List.zip_nil_right, putsO, putO, Nat.reduceEqDiff, ↓reduceIte]
       obtain rfl : b5 = false := aw_same (s := (S5, b5)) hH4 hS5
       try simp only [bS, bA, thenQ, blockQ, noGotoQ]
       iterate 2 (refine q0 _ ?_; clear q0 Q0; simp only [go_sem]; refine aops_chunk 1 fun Q0 q0 => ?_; simp only [↓bO, go_sem, seval])
       refine q0 _ ?_
       clear q0 Q0
       simp only [go_sem]
       simp only [↓bO, go_sem, seval]
       refine y0 _ ?_
       try clear y0 Y0
       refine AWp_ret ?_
       try simp only [thenQ, blockQ, noGotoQ, retQ, aRes, tupOf, bS, bA]
       exact Le.refl _
      ·
       simp only [List.set_cons_zero, List.set_cons_succ]
       exact absurd hc43 (by decide)
     ·
      simp only [List.set_cons_zero, List.set_cons_succ]
      exact absurd hc38 (by decide)
    ·
     simp only [List.set_cons_zero, List.set_cons_succ]
     exact absurd hc33 (by decide)
   ·
    simp only [List.set_cons_zero, List.set_cons_succ]
    exact absurd hc29 (by decide)
  ·
   simp only [List.set_cons_zero, List.set_cons_succ]
   exact absurd hc25 (by decide)
end Go.Proofs.Ytjjjckjebkmnjaa
namespace Go.Proofs.Ytjjjckjebkmnjaa
open Go Go.RowKit
set_option maxRecDepth 100000
set_option maxHeartbeats 4000000
set_option linter.unusedSimpArgs false
set_option linter.unusedVariables false
attribute [local irreducible] aops dRun
def Ty.big (t : Ty) : Bool := decide (t.room 100 30 < 0)
theorem Ty.big_cnt {t : Ty} (h : t.big = false) : t.cnt ≤ 100 := by
  simp only [Ty.big, decide_eq_false_iff_not] at h
  have := Ty.room_cnt t 100 30 (by omega) (by omega)
  omega
def bigE (e : Ty × Ty) : Bool := e.1.big || e.2.big
def greatE (l : List (Ty × Ty)) : Bool := (l.take 30).any bigE || decide (20 < l.length) || decide (160 < sumP (l.take 30))
theorem greatE_true {l : List (Ty × Ty)} {s : Nat} {e : Ty × Ty} (hp : l[s]? = some e) (hs : s < 30) (h : bigE e = true) : greatE l = true := by
  have h1 : (l.take 30).any bigE = true := all_not_of (i := s) (p := e) (by rw [List.getElem?_take, if_pos hs]; exact hp) h
  simp only [greatE, h1, Bool.true_or]
theorem greatE_end {l : List (Ty × Ty)} {s : Nat} (hs : ¬ (s < l.length ∧ s < 30)) (h1 : s ≤ l.length) (h2 : s ≤ 30) (h : ∀ (i : Nat) (p : Ty × Ty), i < s → l[i]? = some p → bigE p = false) :
    greatE l = (decide (20 < l.length) || decide (160 < sumP (l.take s))) := by
  have e : l.take 30 = l.take s := by
    rcases Nat.lt_or_ge s 30 with h3 | h3
    · have h4 : s = l.length := by omega
      subst h4
      rw [List.take_length, List.take_of_length_le (by omega)]
    · rw [show s = 30 by omega]
  have h0 : (l.take s).any bigE = false := any_false_of fun i p hi hp => by
    rw [List.getElem?_take] at hp
    split at hp
    · exact h i p (by assumption) hp
    · cases hp
  simp only [greatE, e, h0, Bool.false_or]
theorem greatE_spec {l : List (Ty × Ty)} (h : greatE l = false) : l.length ≤ 20 ∧ sumP l ≤ 160 := by
  simp only [greatE, Bool.or_eq_false_iff, decide_eq_false_iff_not] at h
  obtain ⟨⟨h1, h2⟩, h3⟩ := h
  rw [List.take_of_length_le (by omega)] at h3
  exact ⟨by omega, by omega⟩
theorem sumP_step {l : List (Ty × Ty)} {s : Nat} {e : Ty × Ty} (h : l[s]? = some e) : sumP (l.take (s + 1)) = sumP (l.take s) + (e.1.cnt + e.2.cnt) := by
  rw [List.take_add_one, h]
  exact sumP_snoc _ _
theorem room12_pure : ∀ (T : Ty) (n : Int) (d : Nat) (hn : 0 ≤ n) (hn2 : n ≤ 1099511627776) (hd : d ≤ 1099511627776), APure Try.prog 68 [.agg T.cells, .v (.int .i64 n), .v (.int .i64 d)] (.v (.int .i64 (T.room n d))) := by
  refine Ty.ind fun T ih => ?_
  intro n d hn hn2 hd
  refine APure.mkL (.cons T.dataAgg (.cons (.v _) (.cons (.v _) .nil))) (.v _) ?_
  refine ACalls_intro Try.func68 (by kernel_rfl) rfl (by rw [Try.ntmps68]; simp) (fun hm => ?_)
  simp only [Try.ntmps68, Try.results68, List.length_cons, List.length_nil, Nat.reduceAdd, Nat.reduceSub, List.replicate_succ, List.replicate_zero, List.cons_append, List.nil_append]
  have hm1 := hm.wide (t := T) (by simp)
  have hw1 : IntKind.i64.wrap (n - 1) = n - 1 := wrap_in (by omega) (by omega)
  iterate 2 (refine AWp_seqK fun Y0 y0 => ?_; refine AWp_region ?_; simp only [↓bO, go_sem, seval, hw1]; refine y0 _ ?_; (try clear y0 Y0))
  refine AWp_seqK fun Y0 y0 => ?_
  refine AWp_seqK fun Y1 y1 => ?_
  refine AWp_region ?_
  simp only [↓bO, go_sem, seval, hw1]
  refine y1 _ ?_
  try clear y1 Y1
  refine AWp_cond rfl (fun hb11 => ?_) (fun hb11 => ?_)
  ·
   have hd0 : d = 0 := by simpa using hb11
   refine AWp_seqK fun Y1 y1 => ?_
   refine AWp_region ?_
   simp only [↓bO, go_sem, seval, hw1]
   refine y1 _ ?_
   try clear y1 Y1
   refine AWp_ret ?_
   try simp only [thenQ, blockQ, noGotoQ, retQ, aRes, tupOf, bS, bA]
   refine Le.of_eq (congrArg (fun n => AV.v (.int .i64 n)) ?_)
   first | (rw [hd0, Ty.room_zero]; done) | skip
   all_goals (rw [Ty.room_succ]; simp only [decide_eq_false_iff_not] at hb20; rcases Nat.lt_or_ge s T.ps.length with h5 | h5 <;> first | (rw [List.take_of_length_le h5]; done) | (rw [Ty.roomL_stop T.ps s _ _ (by omega)]; done))
  ·
   obtain ⟨e, rfl⟩ : ∃ e, d = e + 1 := ⟨d - 1, by simp at hb11; omega⟩
   have hw2 : IntKind.i64.wrap ((e : Int) + 1 - 1) = (e : Int) := by rw [wrap_in (by omega) (by omega)]; omega
   refine AWp_skip ?_
   try simp only [thenQ, blockQ, noGotoQ]
   refine y0 _ ?_
   try clear y0 Y0
   refine AWp_seqK fun Y0 y0 => ?_
   refine AWp_seqK fun Y1 y1 => ?_
   refine AWp_region ?_
   simp only [↓bO, go_sem, seval, hw1]
   refine y1 _ ?_
   try clear y1 Y1
   refine AWp_block ?_
   refine AWp_loopM (σ := Nat) (mB 33 142) (fun s => s ≤ T.ps.length) (fun s => [(1, .v (.int .i64 (Ty.roomL (T.ps.take s) (n - 1) e))), (7, .v (.int .i64 (s : Int)))]) (fun s => []) (fun s => T.ps.length - s) 0 (by omega) ?_ (fun s hs => ?_)
   ·
    simp only [maskL, setsL, putsO, putO, mB, List.set_cons_zero, List.set_cons_succ, seval, bL, Ty.roomL]
    exact Weak.mk (by simp only [go_sem, Le.refl, Le.any, Le.slNil, Int.natCast_add, Int.cast_ofNat_Int, Int.natCast_one]) (fun _ _ h => h) rfl rfl
   simp only [maskL, setsL, putsO, putO, mB, List.set_cons_zero, List.set_cons_succ, seval]
   refine AWp_seqK fun Y1 y1 => ?_
   refine AWp_joinM (mB 33 1048718) ([(20, .v (.bool (decide (s < T.ps.length ∧ 0 ≤ Ty.roomL (T.ps.take s) (n - 1) e))))]) ([]) ?_ ?_
   ·
    refine AWp_region ?_
    refine aops_chunk 4 fun Q0 q0 => ?_
    simp only [↓bO, go_sem, seval, hw1]
    refine q0 _ ?_
    clear q0 Q0
    simp only [go_sem]
    refine aops_chunk 2 fun Q0 q0 => ?_
    simp only [↓bO, go_sem, seval, hw1]
    refine q0 _ ?_
    clear q0 Q0
    simp only [go_sem]
    refine aops_case 17 rfl (fun hc17 => ?_) (fun hc17 => ?_)
    ·
     simp only [List.set_cons_zero, List.set_cons_succ]
     simp only [↓bO, go_sem, seval, hw1]
     try simp only [maskL, setsL, putsO, putO, mB, List.set_cons_zero, List.set_cons_succ, seval]
     refine Weak.mk ?_ (fun _ _ h => h) rfl rfl
     simp only [go_sem, Le.refl, Le.any]
     all_goals (refine Le.of_eq (congrArg (fun b => AV.v (.bool b)) ?_); rw [Bool.eq_iff_iff]; simp only [decide_eq_true_eq, decide_eq_false_iff_not, ge_iff_le, Bool.false_eq_true, false_iff, Int.ofNat_lt] at *; omega)
    ·
     simp only [List.set_cons_zero, List.set_cons_succ]
     simp only [↓bO, go_sem, seval, hw1]
     try simp only [maskL, setsL, putsO, putO, mB, List.set_cons_zero, List.set_cons_succ, seval]
     refine Weak.mk ?_ (fun _ _ h => h) rfl rfl
     simp only [go_sem, Le.refl, Le.any]
     all_goals (refine Le.of_eq (congrArg (fun b => AV.v (.bool b)) ?_); rw [Bool.eq_iff_iff]; simp only [decide_eq_true_eq, decide_eq_false_iff_not, ge_iff_le, Bool.false_eq_true, false_iff, Int.ofNat_lt] at *; omega)
   simp only [maskL, setsL, putsO, putO, mB, List.set_cons_zero, List.set_cons_succ, seval]
   refine AWp_cond rfl (fun hb20 => ?_) (fun hb20 => ?_)
   ·
    have hk : s < T.ps.length := by simp only [decide_eq_true_eq] at hb20; exact hb20.1
    obtain ⟨p, hp⟩ : ∃ p, T.ps[s]? = some p := ⟨_, List.getElem?_eq_getElem hk⟩
    have hw : IntKind.i64.wrap ((s : Int) + 1) = (s : Int) + 1 := wrap_in (by omega) (by have := hm1.len; simp only [maxLen] at this; omega)
    have hrm : 0 ≤ Ty.roomL (T.ps.take s) (n - 1) e := by simp only [decide_eq_true_eq] at hb20; exact hb20.2
    have hrl := Ty.roomL_le (T.ps.take s) (n - 1) e (by omega)
    refine AWp_skip ?_
    try simp only [thenQ, blockQ, noGotoQ]
    refine y1 _ ?_
    try clear y1 Y1
    refine AWp_seqK fun Y1 y1 => ?_
    refine AWp_block ?_
    refine AWp_region ?_
    iterate 2 (refine aops_chunk 4 fun Q0 q0 => ?_; simp only [↓bO, go_sem, seval, hw1, hk, gM hp, Int.natCast_add, hw, Ty.roomL_step hp (n - 1) e hrm, hw2]; refine q0 _ ?_; clear q0 Q0; simp only [go_sem])
    refine aops_chunk 1 fun Q0 q0 => ?_
    simp only [↓bO, go_sem, seval, hw1, hk, gM hp, Int.natCast_add, hw, Ty.roomL_step hp (n - 1) e hrm, hw2]
    refine APure.call (ih p (List.mem_of_getElem? hp) _ e hrm (by omega) (by omega)) ?_
    try simp only [bS, bA, thenQ, blockQ, noGotoQ]
    refine q0 _ ?_
    clear q0 Q0
    simp only [go_sem]
    simp only [↓bO, go_sem, seval, hw1, hk, gM hp, Int.natCast_add, hw, Ty.roomL_step hp (n - 1) e hrm, hw2]
    refine y1 _ ?_
    try clear y1 Y1
    refine AWp_region ?_
    simp only [↓bO, go_sem, seval, hw1, hk, gM hp, Int.natCast_add, hw, Ty.roomL_step hp (n - 1) e hrm, hw2]
    refine ⟨(s + 1), (by omega), by omega, ?_⟩
    simp only [maskL, setsL, putsO, putO, mB, List.set_cons_zero, List.set_cons_succ, seval, hk, gM hp, Int.natCast_add, Int.natCast_one, hw, Ty.roomL_step hp (n - 1) e hrm, hw2]
    exact Weak.mk (by simp only [go_sem, Le.refl, Le.any, Le.slNil, Int.natCast_add, Int.cast_ofNat_Int, Int.natCast_one]) (fun _ _ h => h) rfl rfl
   ·
    refine AWp_exit ?_
    simp only [thenQ, blockQ, noGotoQ, bA, Nat.reduceEqDiff, ↓reduceIte]
    refine y0 _ ?_
    try clear y0 Y0
    refine AWp_seqK fun Y0 y0 => ?_
    refine AWp_region ?_
    simp only [↓bO, go_sem, seval, hw1]
    refine y0 _ ?_
    try clear y0 Y0
    refine AWp_ret ?_
    try simp only [thenQ, blockQ, noGotoQ, retQ, aRes, tupOf, bS, bA]
    refine Le.of_eq (congrArg (fun n => AV.v (.int .i64 n)) ?_)
    first | (rw [hd0, Ty.room_zero]; done) | skip
    all_goals (rw [Ty.room_succ]; simp only [decide_eq_false_iff_not] at hb20; rcases Nat.lt_or_ge s T.ps.length with h5 | h5 <;> first | (rw [List.take_of_length_le h5]; done) | (rw [Ty.roomL_stop T.ps s _ _ (by omega)]; done))
theorem big12_pure (T : Ty) : APure Try.prog 38 [.agg T.cells] (.v (.bool T.big)) := by
  refine APure.mkL (.cons T.dataAgg .nil) (.v _) ?_
  refine ACalls_intro Try.func38 (by kernel_rfl) rfl (by rw [Try.ntmps38]; simp) (fun hm => ?_)
  simp only [Try.ntmps38, Try.results38, List.length_cons, List.length_nil, Nat.reduceAdd, Nat.reduceSub, List.replicate_succ, List.replicate_zero, List.cons_append, List.nil_append]
  simp only [Ty.cells_eq T, List.cons_append, List.nil_append]
  refine AWp_seqK fun Y0 y0 => ?_
  refine AWp_region ?_
  simp only [↓bO, go_sem, seval]
  refine y0 _ ?_
  try clear y0 Y0
  refine AWp_seqK fun Y0 y0 => ?_
  refine AWp_region ?_
  refine aops_chunk 1 fun Q0 q0 => ?_
  simp only [↓bO, go_sem, seval]
  refine q0 _ ?_
  clear q0 Q0
  simp only [go_sem]
  refine aops_chunk 1 fun Q0 q0 => ?_
  simp only [↓bO, go_sem, seval]
  refine APure.call (by have h9 := room12_pure T 100 30 (by omega) (by omega) (by omega); rw [Ty.cells_eq T] at h9; exact h9) ?_
  try simp only [bS, bA, thenQ, blockQ, noGotoQ]
  refine q0 _ ?_
  clear q0 Q0
  simp only [go_sem]
  simp only [↓bO, go_sem, seval]
  refine y0 _ ?_
  try clear y0 Y0
  refine AWp_ret ?_
  try simp only [thenQ, blockQ, noGotoQ, retQ, aRes, tupOf, bS, bA]
  exact Le.of_eq (congrArg (fun b => AV.v (.bool b)) rfl)
theorem Great12_pure (es : List EqT) : APure Try.prog 9 [.sl 8 (es.map EqT.cells)] (.v (.bool (greatE (es.map EqT.p)))) := by
  refine APure.mkL (.cons (EqT.dataSl es) .nil) (.v _) ?_
  refine ACalls_intro Try.func9 (by kernel_rfl) rfl (by rw [Try.ntmps9]; simp) (fun hm => ?_)
  simp only [Try.ntmps9, Try.results9, List.length_cons, List.length_nil, Nat.reduceAdd, Nat.reduceSub, List.replicate_succ, List.replicate_zero, List.cons_append, List.nil_append]
  iterate 2 (refine AWp_seqK fun Y0 y0 => ?_; refine AWp_region ?_; simp only [↓bO, go_sem, seval]; refine y0 _ ?_; (try clear y0 Y0))
  refine AWp_seqK fun Y0 y0 => ?_
  refine AWp_seqK fun Y1 y1 => ?_
  refine AWp_region ?_
  simp only [↓bO, go_sem, seval]
  refine y1 _ ?_
  try clear y1 Y1
  refine AWp_block ?_
  refine AWp_loopM (σ := Nat) (mB 51 25) (fun s => s ≤ es.length ∧ s ≤ 30 ∧ sumP ((es.map EqT.p).take s) ≤ 200 * s ∧ ∀ (i : Nat) (p : Ty × Ty), i < s → (es.map EqT.p)[i]? = some p → bigE p = false) (fun s => [(3, .v (.int .i64 (sumP ((es.map EqT.p).take s) : Nat))), (4, .v (.int .i64 (s : Int)))]) (fun s => []) (fun s => 30 - s) 0 (⟨by omega, by omega, by simp [sumP], fun i p hi => by omega⟩) ?_ (fun s hs => ?_)
  ·
   simp only [maskL, setsL, putsO, putO, mB, List.set_cons_zero, List.set_cons_succ, seval, bL, sumP, Int.natCast_zero, Int.ofNat_zero, Int.cast_ofNat_Int]
   exact Weak.mk (by simp only [go_sem, Le.refl, Le.any, Le.slNil, Int.natCast_add, Int.cast_ofNat_Int, Int.natCast_one]) (fun _ _ h => h) rfl rfl
  simp only [maskL, setsL, putsO, putO, mB, List.set_cons_zero, List.set_cons_succ, seval]
  refine AWp_seqK fun Y1 y1 => ?_
  refine AWp_joinM (mB 51 4121) ([(12, .v (.bool (decide (s < es.length ∧ s < 30))))]) ([]) ?_ ?_
  ·
   refine AWp_region ?_
   iterate 5 (refine aops_chunk 1 fun Q0 q0 => ?_; simp only [↓bO, go_sem, seval]; refine q0 _ ?_; clear q0 Q0; simp only [go_sem])
   refine aops_case 9 rfl (fun hc9 => ?_) (fun hc9 => ?_)
   ·
    simp only [List.set_cons_zero, List.set_cons_succ]
    iterate 2 (refine aops_chunk 1 fun Q0 q0 => ?_; simp only [↓bO, go_sem, seval]; refine q0 _ ?_; clear q0 Q0; simp only [go_sem])
    simp only [↓bO, go_sem, seval]
    try simp only [maskL, setsL, putsO, putO, mB, List.set_cons_zero, List.set_cons_succ, seval]
    refine Weak.mk ?_ (fun _ _ h => h) rfl rfl
    simp only [go_sem, Le.refl, Le.any]
    all_goals (refine Le.of_eq (congrArg (fun b => AV.v (.bool b)) ?_); rw [Bool.eq_iff_iff]; simp only [decide_eq_true_eq, decide_eq_false_iff_not, Bool.false_eq_true, false_iff, Int.ofNat_lt] at *; omega)
   ·
    simp only [List.set_cons_zero, List.set_cons_succ]
    iterate 2 (refine aops_chunk 1 fun Q0 q0 => ?_; simp only [↓bO, go_sem, seval]; refine q0 _ ?_; clear q0 Q0; simp only [go_sem])
    simp only [↓bO, go_sem, seval]
    try simp only [maskL, setsL, putsO, putO, mB, List.set_cons_zero, List.set_cons_succ, seval]
    refine Weak.mk ?_ (fun _ _ h => h) rfl rfl
    simp only [go_sem, Le.refl, Le.any]
    all_goals (refine Le.of_eq (congrArg (fun b => AV.v (.bool b)) ?_); rw [Bool.eq_iff_iff]; simp only [decide_eq_true_eq, decide_eq_false_iff_not, Bool.false_eq_true, false_iff, Int.ofNat_lt] at *; omega)
  simp only [maskL, setsL, putsO, putO, mB, List.set_cons_zero, List.set_cons_succ, seval]
  refine AWp_cond rfl (fun hb12 => ?_) (fun hb12 => ?_)
  ·
   have hk0 : s < es.length ∧ s < 30 := by simpa using hb12
   have hk : s < es.length := hk0.1
   obtain ⟨e, he⟩ : ∃ e, es[s]? = some e := ⟨_, List.getElem?_eq_getElem hk⟩
   have hep : (es.map EqT.p)[s]? = some e.p := by rw [List.getElem?_map, he]; rfl
   have hss := sumP_step hep
   simp only [EqT.p] at hss
   have hw : IntKind.i64.wrap ((s : Int) + 1) = (s : Int) + 1 := wrap_in (by omega) (by omega)
   refine AWp_skip ?_
   try simp only [thenQ, blockQ, noGotoQ]
   refine y1 _ ?_
   try clear y1 Y1
   refine AWp_seqK fun Y1 y1 => ?_
   refine AWp_block ?_
   refine AWp_seqK fun Y2 y2 => ?_
   refine AWp_seqK fun Y3 y3 => ?_
   refine AWp_region ?_
   iterate 5 (refine aops_chunk 1 fun Q0 q0 => ?_; simp only [↓bO, go_sem, seval, hk, gM he, EqT.cells, Ty.refold, Int.natCast_add, hw]; refine q0 _ ?_; clear q0 Q0; simp only [go_sem])
   refine aops_chunk 1 fun Q0 q0 => ?_
   simp only [↓bO, go_sem, seval, hk, gM he, EqT.cells, Ty.refold, Int.natCast_add, hw]
   refine APure.call (big12_pure e.l) ?_
   try simp only [bS, bA, thenQ, blockQ, noGotoQ]
   refine q0 _ ?_
   clear q0 Q0
   simp only [go_sem]
   refine aops_chunk 1 fun Q0 q0 => ?_
   simp only [↓bO, go_sem, seval, hk, gM he, EqT.cells, Ty.refold, Int.natCast_add, hw]
   refine q0 _ ?_
   clear q0 Q0
   simp only [go_sem]
   refine aops_case 21 rfl (fun hc21 => ?_) (fun hc21 => ?_)
   ·
    simp only [List.set_cons_zero, List.set_cons_succ]
    have hyb : bigE e.p = true := by (have h9 : e.l.big = true := by simpa using hc21); exact (by rw [bigE, show e.p.1.big = true from h9]; rfl)
    iterate 6 (refine aops_chunk 1 fun Q0 q0 => ?_; simp only [↓bO, go_sem, seval, hk, gM he, EqT.cells, Ty.refold, Int.natCast_add, hw]; refine q0 _ ?_; clear q0 Q0; simp only [go_sem])
    simp only [↓bO, go_sem, seval, hk, gM he, EqT.cells, Ty.refold, Int.natCast_add, hw]
    refine y3 _ ?_
    try clear y3 Y3
    refine AWp_cond (b := true) (by first | exact rfl | exact congrArg (fun b => AV.v (.bool b)) hb28) (fun _ => ?_) (fun h => (by cases h))
    refine AWp_seqK fun Y3 y3 => ?_
    refine AWp_region ?_
    simp only [↓bO, go_sem, seval, hk, gM he, EqT.cells, Ty.refold, Int.natCast_add, hw]
    refine y3 _ ?_
    try clear y3 Y3
    refine AWp_ret ?_
    try simp only [thenQ, blockQ, noGotoQ, retQ, aRes, tupOf, bS, bA]
    refine Le.of_eq (congrArg (fun b => AV.v (.bool b)) ?_)
    first | (rw [greatE_true hep (by omega) hyb]; done) | skip
    all_goals (rw [hg1, Bool.eq_iff_iff]; simp only [Bool.or_eq_true, decide_eq_true_eq, decide_eq_false_iff_not, true_iff, Bool.false_eq_true, false_iff] at *; omega)
   ·
    simp only [List.set_cons_zero, List.set_cons_succ]
    have hb1 : e.l.big = false := by simpa using hc21
    iterate 5 (refine aops_chunk 1 fun Q0 q0 => ?_; simp only [↓bO, go_sem, seval, hk, gM he, EqT.cells, Ty.refold, Int.natCast_add, hw]; refine q0 _ ?_; clear q0 Q0; simp only [go_sem])
    refine aops_chunk 1 fun Q0 q0 => ?_
    simp only [↓bO, go_sem, seval, hk, gM he, EqT.cells, Ty.refold, Int.natCast_add, hw]
    refine APure.call (big12_pure e.r) ?_
    try simp only [bS, bA, thenQ, blockQ, noGotoQ]
    refine q0 _ ?_
    clear q0 Q0
    simp only [go_sem]
    simp only [↓bO, go_sem, seval, hk, gM he, EqT.cells, Ty.refold, Int.natCast_add, hw]
    refine y3 _ ?_
    try clear y3 Y3
    refine AWp_cond rfl (fun hb28 => ?_) (fun hb28 => ?_)
    ·
     have hyb : bigE e.p = true := by (have h9 : e.r.big = true := by simpa using hb28); exact (by rw [bigE, show e.p.2.big = true from h9, Bool.or_true])
     refine AWp_seqK fun Y3 y3 => ?_
     refine AWp_region ?_
     simp only [↓bO, go_sem, seval, hk, gM he, EqT.cells, Ty.refold, Int.natCast_add, hw]
     refine y3 _ ?_
     try clear y3 Y3
     refine AWp_ret ?_
     try simp only [thenQ, blockQ, noGotoQ, retQ, aRes, tupOf, bS, bA]
     refine Le.of_eq (congrArg (fun b => AV.v (.bool b)) ?_)
     first | (rw [greatE_true hep (by omega) hyb]; done) | skip
     all_goals (rw [hg1, Bool.eq_iff_iff]; simp only [Bool.or_eq_true, decide_eq_true_eq, decide_eq_false_iff_not, true_iff, Bool.false_eq_true, false_iff] at *; omega)
    ·
     have hb2 : e.r.big = false := by simpa using hb28
     have hnb : bigE e.p = false := by rw [bigE, show e.p.1.big = false from hb1, show e.p.2.big = false from hb2]; rfl
     have hpc1 := Ty.big_cnt hb1
     have hpc2 := Ty.big_cnt hb2
     have hsz1 := Ty.sizeW_cnt e.l (by omega)
     have hsz2 := Ty.sizeW_cnt e.r (by omega)
     have hw2 : IntKind.i64.wrap ((sumP ((es.map EqT.p).take s) : Int) + e.l.sizeW) = (sumP ((es.map EqT.p).take s) : Int) + e.l.cnt := by rw [hsz1, wrap_in (by omega) (by omega)]
     have hw3 : IntKind.i64.wrap ((sumP ((es.map EqT.p).take s) : Int) + e.l.cnt + e.r.sizeW) = (sumP ((es.map EqT.p).take (s + 1)) : Int) := by rw [hsz2, wrap_in (by omega) (by omega)]; omega
     refine AWp_skip ?_
     try simp only [thenQ, blockQ, noGotoQ]
     refine y2 _ ?_
     try clear y2 Y2
     refine AWp_drawK 15 mixed (by kernel_rfl) fun J0 j0 => ?_
     iterate 6 (simp only [go_sem]; refine dRun_chunk 1 fun Q0 q0 => ?_; simp only [↓dRun, ↓dOp, ↓bO, go_sem, seval, hk, gM he, EqT.cells, Ty.refold, Int.natCast_add, hw, hw2, hw3]; refine q0 _ ?_; clear q0 Q0)
     simp only [go_sem]
     refine dRun_chunk 1 fun Q0 q0 => ?_
     simp only [↓dRun, ↓dOp, ↓bO, go_sem, seval, hk, gM he, EqT.cells, Ty.refold, Int.natCast_add, hw, hw2, hw3]
     refine ⟨_, Size_pure e.l, ?_⟩
     try simp only [bS, bA, thenQ, blockQ, noGotoQ]
     iterate 7 (refine q0 _ ?_; clear q0 Q0; simp only [go_sem]; refine dRun_chunk 1 fun Q0 q0 => ?_; simp only [↓dRun, ↓dOp, ↓bO, go_sem, seval, hk, gM he, EqT.cells, Ty.refold, Int.natCast_add, hw, hw2, hw3])
     refine ⟨_, Size_pure e.r, ?_⟩
     try simp only [bS, bA, thenQ, blockQ, noGotoQ]
     refine q0 _ ?_
     clear q0 Q0
     simp only [go_sem]
     simp only [↓dRun, ↓dOp, ↓bO, go_sem, seval, hk, gM he, EqT.cells, Ty.refold, Int.natCast_add, hw, hw2, hw3]
     refine j0 _ ?_
     clear j0 J0
     simp only [go_sem]
     simp only [↓bO, go_sem, seval, hk, gM he, EqT.cells, Ty.refold, Int.natCast_add, hw, hw2, hw3]
     refine y1 _ ?_
     try clear y1 Y1
     refine AWp_region ?_
     iterate 2 (refine aops_chunk 1 fun Q0 q0 => ?_; simp only [↓bO, go_sem, seval, hk, gM he, EqT.cells, Ty.refold, Int.natCast_add, hw, hw2, hw3]; refine q0 _ ?_; clear q0 Q0; simp only [go_sem])
     simp only [↓bO, go_sem, seval, hk, gM he, EqT.cells, Ty.refold, Int.natCast_add, hw, hw2, hw3]
     refine ⟨(s + 1), ⟨by omega, by omega, by omega, fun i p' hi h1 => (by rcases Nat.lt_or_ge i s with h3 | h3 <;> first | exact hs.2.2.2 i p' h3 h1 | (obtain rfl : i = s := (by omega); rw [hep] at h1; cases h1; exact hnb))⟩, by omega, ?_⟩
     simp only [maskL, setsL, putsO, putO, mB, List.set_cons_zero, List.set_cons_succ, seval, hk, gM he, EqT.cells, Ty.refold, Int.natCast_add, Int.natCast_one, hw, hw2, hw3]
     exact Weak.mk (by simp only [go_sem, Le.refl, Le.any, Le.slNil, Int.natCast_add, Int.cast_ofNat_Int, Int.natCast_one]) (fun _ _ h => h) rfl rfl
  ·
   have hk0 : ¬ (s < es.length ∧ s < 30) := by simpa using hb12
   have hg1 := greatE_end (l := (es.map EqT.p)) (by rw [List.length_map]; exact hk0) (by rw [List.length_map]; exact hs.1) hs.2.1 hs.2.2.2
   rw [List.length_map] at hg1
   refine AWp_exit ?_
   simp only [thenQ, blockQ, noGotoQ, bA, Nat.reduceEqDiff, ↓reduceIte]
   refine y0 _ ?_
   try clear y0 Y0
   refine AWp_seqK fun Y0 y0 => ?_
   refine AWp_region ?_
   iterate 4 (refine aops_chunk 1 fun Q0 q0 => ?_; simp only [↓bO, go_sem, seval]; refine q0 _ ?_; clear q0 Q0; simp only [go_sem])
   refine aops_case 47 rfl (fun hc47 => ?_) (fun hc47 => ?_)
   ·
    simp only [List.set_cons_zero, List.set_cons_succ]
    iterate 3 (refine aops_chunk 1 fun Q0 q0 => ?_; simp only [↓bO, go_sem, seval]; refine q0 _ ?_; clear q0 Q0; simp only [go_sem])
    simp only [↓bO, go_sem, seval]
    refine y0 _ ?_
    try clear y0 Y0
    refine AWp_ret ?_
    try simp only [thenQ, blockQ, noGotoQ, retQ, aRes, tupOf, bS, bA]
    refine Le.of_eq (congrArg (fun b => AV.v (.bool b)) ?_)
    first | (rw [greatE_true hep (by omega) hyb]; done) | skip
    all_goals (rw [hg1, Bool.eq_iff_iff]; simp only [Bool.or_eq_true, decide_eq_true_eq, decide_eq_false_iff_not, true_iff, Bool.false_eq_true, false_iff] at *; omega)
   ·
    simp only [List.set_cons_zero, List.set_cons_succ]
    iterate 3 (refine aops_chunk 1 fun Q0 q0 => ?_; simp only [↓bO, go_sem, seval]; refine q0 _ ?_; clear q0 Q0; simp only [go_sem])
    simp only [↓bO, go_sem, seval]
    refine y0 _ ?_
    try clear y0 Y0
    refine AWp_ret ?_
    try simp only [thenQ, blockQ, noGotoQ, retQ, aRes, tupOf, bS, bA]
    refine Le.of_eq (congrArg (fun b => AV.v (.bool b)) ?_)
    first | (rw [greatE_true hep (by omega) hyb]; done) | skip
    all_goals (rw [hg1, Bool.eq_iff_iff]; simp only [Bool.or_eq_true, decide_eq_true_eq, decide_eq_false_iff_not, true_iff, Bool.false_eq_true, false_iff] at *; omega)
end Go.Proofs.Ytjjjckjebkmnjaa
namespace Go.Proofs.Ytjjjckjebkmnjaa
open Go Go.RowKit
set_option maxRecDepth 100000
set_option maxHeartbeats 4000000
set_option linter.unusedSimpArgs false
set_option linter.unusedVariables false
attribute [local irreducible] aops dRun
theorem UnifyParts_pure (es : List EqT) (d : Nat) (hd : d < 256) : APure Try.prog 4 [.sl 8 (es.map EqT.cells), .v (.int .u8 (d : Int))] (.v (.bool true)) := by
  refine APure.mkL (.cons (EqT.dataSl es) (.cons (.v _) .nil)) (.v _) ?_
  refine ACalls_intro Try.func4 (by kernel_rfl) rfl (by rw [Try.ntmps4]; simp) (fun hm => ?_)
  simp only [Try.ntmps4, Try.results4, List.length_cons, List.length_nil, Nat.reduceAdd, Nat.reduceSub, List.replicate_succ, List.replicate_zero, List.cons_append, List.nil_append]
  have hd3 : d % 3 < 3 := Nat.mod_lt _ (by omega)
  have hdw : IntKind.i64.wrap (Int.tmod (d : Int) 3) = ((d % 3 : Nat) : Int) := by rw [show Int.tmod (d : Int) 3 = ((d % 3 : Nat) : Int) from rfl]; exact wrap_in (by omega) (by omega)
  refine AWp_seqK fun Y0 y0 => ?_
  refine AWp_region ?_
  simp only [↓bO, go_sem, seval, hdw]
  refine y0 _ ?_
  try clear y0 Y0
  refine AWp_seqK fun Y0 y0 => ?_
  refine AWp_seqK fun Y1 y1 => ?_
  refine AWp_region ?_
  refine aops_chunk 1 fun Q0 q0 => ?_
  simp only [↓bO, go_sem, seval, hdw]
  refine q0 _ ?_
  clear q0 Q0
  simp only [go_sem]
  simp only [↓bO, go_sem, seval, hdw]
  refine APure.call (Great12_pure es) ?_
  try simp only [bS, bA, thenQ, blockQ, noGotoQ]
  refine y1 _ ?_
  try clear y1 Y1
  refine AWp_cond rfl (fun hb22 => ?_) (fun hb22 => ?_)
  ·
   refine AWp_seqK fun Y1 y1 => ?_
   refine AWp_region ?_
   refine aops_chunk 1 fun Q0 q0 => ?_
   simp only [↓bO, go_sem, seval, hdw]
   refine APure.call (awake12_pure) ?_
   try simp only [bS, bA, thenQ, blockQ, noGotoQ]
   refine q0 _ ?_
   clear q0 Q0
   simp only [go_sem]
   simp only [↓bO, go_sem, seval, hdw]
   refine y1 _ ?_
   try clear y1 Y1
   refine AWp_ret ?_
   try simp only [thenQ, blockQ, noGotoQ, retQ, aRes, tupOf, bS, bA]
   exact Le.refl _
  ·
   have hgl := greatE_spec hb22
   rw [List.length_map] at hgl
   obtain ⟨hsP, hol⟩ := rights_okE es hgl.2
   have hll := rightsE_len es
   have hrP : ∀ e ∈ ((rightsE es).map EqT.p), (e.1.right && e.2.right) = true := fun e he => (by obtain ⟨x, hx, rfl⟩ := List.mem_map.1 he; exact (List.mem_filter.1 hx).2)
   refine AWp_skip ?_
   try simp only [thenQ, blockQ, noGotoQ]
   refine y0 _ ?_
   try clear y0 Y0
   refine AWp_seqK fun Y0 y0 => ?_
   refine AWp_region ?_
   refine aops_chunk 1 fun Q0 q0 => ?_
   simp only [↓bO, go_sem, seval, hdw]
   refine q0 _ ?_
   clear q0 Q0
   simp only [go_sem]
   refine aops_chunk 1 fun Q0 q0 => ?_
   simp only [↓bO, go_sem, seval, hdw]
   refine APure.call (Rights12_pure es (by omega)) ?_
   try simp only [bS, bA, thenQ, blockQ, noGotoQ]
   refine q0 _ ?_
   clear q0 Q0
   simp only [go_sem]
   simp only [↓bO, go_sem, seval, hdw]
   refine y0 _ ?_
   try clear y0 Y0
   refine AWp_seqK fun Y0 y0 => ?_
   refine AWp_region ?_
   refine aops_chunk 1 fun Q0 q0 => ?_
   simp only [↓bO, go_sem, seval, hdw]
   refine VNew_calls.mono ?_
   rintro r os' nx' ⟨⟨rfl, rfl⟩, rfl⟩
   try simp only [bS, bA, thenQ, blockQ, noGotoQ]
   refine q0 _ ?_
   clear q0 Q0
   simp only [go_sem]
   simp only [↓bO, go_sem, seval, hdw]
   refine y0 _ ?_
   try clear y0 Y0
   refine AWp_seqK fun Y0 y0 => ?_
   refine AWp_weak (Weak.rowCell 3 1 0 (id := 0) rfl rfl) ?_
   simp only [newOs, putO, Nat.reduceEqDiff, ↓reduceIte, List.set_cons_zero, List.set_cons_succ, List.cons_append, List.nil_append]
   refine AWp_weak (Weak.rowCell 3 1 1 (id := 0) rfl rfl) ?_
   simp only [newOs, putO, Nat.reduceEqDiff, ↓reduceIte, List.set_cons_zero, List.set_cons_succ, List.cons_append, List.nil_append]
   refine AWp_weak (Weak.rowCell 3 1 3 (id := 3) rfl rfl) ?_
   simp only [newOs, putO, Nat.reduceEqDiff, ↓reduceIte, List.set_cons_zero, List.set_cons_succ, List.cons_append, List.nil_append]
   refine AWp_weak (Weak.tokCell 128 4 (id := 2) (t := 118) [.osl 7 4 ([].map GNode.cells), .map 1] rfl ⟨.inr ⟨rfl, rfl⟩, .inl (.refl _), trivial⟩) ?_
   simp only [newOs, putO, Nat.reduceEqDiff, ↓reduceIte, List.set_cons_zero, List.set_cons_succ, List.cons_append, List.nil_append]
   refine AWp_seqK fun Y1 y1 => ?_
   refine AWp_region ?_
   simp only [↓bO, go_sem, seval, hdw]
   refine y1 _ ?_
   try clear y1 Y1
   refine AWp_block ?_
   refine AWp_loopM (σ := CS × Nat) (mB 205 99) (fun u => CSt (((rightsE es).map EqT.p).take u.2) u.1 ∧ u.2 ≤ (rightsE es).length) (fun u => [(6, .v (.int .i64 (u.2 : Int)))]) (fun u => [(3, .cells 89 [.v (.int .i64 u.1.steps), .ptr 2 0, .ptr 0 0, .own 6 u.1.W.length, .v (.bool u.1.clash)]), (2, .cells 118 [.osl 7 4 (u.1.G.N.map GNode.cells), .map 1]), (7, .tok 128 4 u.1.G.N.length), (1, .map (u.1.G.V.map vC)), (0, .cells 115 [.own 4 u.1.F.up.length, .own 5 u.1.F.rank.length, .v (.int .i64 u.1.F.sets), .v (.int .i64 u.1.F.steps)]), (4, .row 3 1 (u.1.F.up.map nC)), (5, .row 3 1 (u.1.F.rank.map intC)), (6, .row 3 1 (u.1.W.map intC))]) (fun u => (rightsE es).length - u.2) (CS0, 0) (⟨CSt.none, by simp only; omega⟩) ?_ (fun u hu => ?_)
   ·
    simp only [maskL, setsL, putsO, putO, mB, List.set_cons_zero, List.set_cons_succ, seval, CS0, bL]
    exact Weak.mk (by simp only [go_sem, Le.refl, Le.any, Le.slNil, Int.natCast_add, Int.cast_ofNat_Int, Int.natCast_one]) (fun _ _ h => h) rfl rfl
   simp only [maskL, setsL, putsO, putO, mB, List.set_cons_zero, List.set_cons_succ, seval]
   refine AWp_seqK fun Y1 y1 => ?_
   refine AWp_seqK fun Y2 y2 => ?_
   refine AWp_region ?_
   iterate 3 (refine aops_chunk 1 fun Q0 q0 => ?_; simp only [↓bO, go_sem, seval, hdw]; refine q0 _ ?_; clear q0 Q0; simp only [go_sem])
   simp only [↓bO, go_sem, seval, hdw]
   refine y2 _ ?_
   try clear y2 Y2
   refine AWp_cond rfl (fun hb30 => ?_) (fun hb30 => ?_)
   ·
    have hk : u.2 < (rightsE es).length := by simpa using hb30
    obtain ⟨e, he⟩ : ∃ e, (rightsE es)[u.2]? = some e := ⟨_, List.getElem?_eq_getElem hk⟩
    have hep : (((rightsE es).map EqT.p))[u.2]? = some e.p := by rw [List.getElem?_map, he]; rfl
    have het : (((rightsE es).map EqT.p)).take (u.2 + 1) = (((rightsE es).map EqT.p)).take u.2 ++ [e.p] := by rw [List.take_add_one, hep]; rfl
    have hst := sumP_take (((rightsE es).map EqT.p)) (u.2 + 1)
    rw [het, sumP_snoc] at hst
    simp only [EqT.p] at hst
    have hw : IntKind.i64.wrap ((u.2 : Int) + 1) = (u.2 : Int) + 1 := wrap_in (by omega) (by omega)
    have hl1 := hu.1.len
    have heo := hol e.p (List.mem_of_getElem? hep)
    refine AWp_skip ?_
    try simp only [thenQ, blockQ, noGotoQ]
    refine y1 _ ?_
    try clear y1 Y1
    refine AWp_seqK fun Y1 y1 => ?_
    refine AWp_block ?_
    refine AWp_drawK 11 mixed (by kernel_rfl) fun J0 j0 => ?_
    iterate 10 (simp only [go_sem]; refine dRun_chunk 1 fun Q0 q0 => ?_; simp only [↓dRun, ↓dOp, ↓bO, go_sem, seval, hdw, hk, gM he, EqT.cells, Ty.refold, hw, Int.natCast_add]; refine q0 _ ?_; clear q0 Q0)
    simp only [go_sem]
    simp only [↓dRun, ↓dOp, ↓bO, go_sem, seval, hdw, hk, gM he, EqT.cells, Ty.refold, hw, Int.natCast_add]
    refine j0 _ ?_
    clear j0 J0
    simp only [go_sem]
    simp only [↓bO, go_sem, seval, hdw, hk, gM he, EqT.cells, Ty.refold, hw, Int.natCast_add]
    refine CCalls.at (Equate_c u.1 (nat2 (eqF (((rightsE es).map EqT.p).take u.2)).2) (eqF (((rightsE es).map EqT.p).take u.2)).1 e.l e.r (fun hc => (hu.1.good hc).1.2) (by omega) (by omega) (by omega)) (.cons (Ty.dataAgg _) (.cons (Ty.dataAgg _) .nil)) (fun _ => .v _) (i0 := 3) (i1 := 2) (i2 := 7) (i3 := 1) (i4 := 0) (i5 := 4) (i6 := 5) (i7 := 6) (by decide) (by simp) ⟨rfl, rfl, rfl, rfl, rfl, rfl, rfl, rfl, trivial⟩ (fun S1 r1 hE1 => ?_)
    try dsimp only at hE1
    simp only [cObsAt, List.zip_cons_cons, List.zip_nil_left, List.zip_nil_right, putsO, putO, Nat.reduceEqDiff, ↓reduceIte]
    have hc1 := hu.1.step (e := e.p) heo hE1
    try simp only [bS, bA, thenQ, blockQ, noGotoQ]
    refine y1 _ ?_
    try clear y1 Y1
    refine AWp_region ?_
    iterate 2 (refine aops_chunk 1 fun Q0 q0 => ?_; simp only [↓bO, go_sem, seval, hdw, hk, gM he, EqT.cells, Ty.refold, hw, Int.natCast_add]; refine q0 _ ?_; clear q0 Q0; simp only [go_sem])
    simp only [↓bO, go_sem, seval, hdw, hk, gM he, EqT.cells, Ty.refold, hw, Int.natCast_add]
    refine ⟨(S1, u.2 + 1), ⟨by rw [het]; exact hc1, by simp only; omega⟩, (by simp only; omega), ?_⟩
    simp only [maskL, setsL, putsO, putO, mB, List.set_cons_zero, List.set_cons_succ, seval, Int.natCast_add, Int.natCast_one, Int.cast_ofNat_Int]
    refine Weak.sub ?_ ⟨rfl, rfl, rfl, rfl, rfl, rfl, rfl, rfl, trivial⟩ (by first | omega | (simp only; omega)) (by first | omega | (simp only; omega)) ?_ ?_
    · simp only [go_sem, Le.refl, Le.any]
    · repeat' first | exact trivial | exact .any _ | exact .ptr (by omega) | exact .own (by omega) | exact .v _ _ | exact Und.data (EqT.dataSl _) | exact Und.data (dataInts _) | exact Und.data (RNode.dataSl _) | exact Und.data (.eptr (.cons (RNode.dataSl _) (.cons (dataInts _) .nil))) | exact Und.eptr ⟨.ptr (by omega), .v _ _, trivial⟩ | exact Und.parts (by omega) _ | (refine ⟨?_, ?_⟩)
    · repeat' first | exact trivial | (with_reducible omega) | exact .any _ | exact .ptr (by omega) | exact .own (by omega) | exact .v _ _ | exact .map (by omega) | exact Und.oslG (by omega) | exact Und.rowI (nC_data _) | exact Und.rowI (iC_data _) | exact (fun p hp => .data (vC_data _ p hp)) | (refine ⟨?_, ?_⟩)
   ·
    have hk : u.2 = (rightsE es).length := by have h9 := hb30; simp at h9; have := hu.2; omega
    obtain ⟨S, hS⟩ : ∃ S, S = u.1 := ⟨_, rfl⟩
    have hCS : CSt ((rightsE es).map EqT.p) S := by (have h9 := hu.1; rw [hk, List.take_of_length_le (by simp)] at h9; rw [hS]; exact h9)
    have hNS := hCS.len
    rw [← hS]
    obtain ⟨M, hM⟩ : ∃ M, M = (eqF ((rightsE es).map EqT.p)).1 := ⟨_, rfl⟩
    have hmlM := eqF_mlen ((rightsE es).map EqT.p)
    rw [← hM] at hmlM
    have hML : M.length ≤ 1048576 := by omega
    refine AWp_exit ?_
    simp only [thenQ, blockQ, noGotoQ, bA, Nat.reduceEqDiff, ↓reduceIte]
    refine y0 _ ?_
    try clear y0 Y0
    refine AWp_joinF (σ := List Int) (mB 205 162) (fun c => [(7, .eptr [.sl 4 (M.map RNode.cells), .sl 1 (c.map intC)])]) (fun c => [(3, .cells 89 [.v (.int .i64 S.steps), .ptr 2 0, .ptr 0 0, .own 6 S.W.length, .v (.bool S.clash)]), (2, .cells 118 [.osl 7 4 (S.G.N.map GNode.cells), .map 1]), (7, .tok 128 4 S.G.N.length), (1, .map (S.G.V.map vC)), (0, .cells 115 [.own 4 S.F.up.length, .own 5 S.F.rank.length, .v (.int .i64 S.F.sets), .v (.int .i64 S.F.steps)]), (4, .row 3 1 (S.F.up.map nC)), (5, .row 3 1 (S.F.rank.map intC)), (6, .row 3 1 (S.W.map intC))]) 8 (fun c => ColE ((rightsE es).map EqT.p) c ∧ clB M c = S.clash) ?_ (fun c hcj => ?_)
    ·
     refine AWp_region ?_
     refine aops_chunk 1 fun Q0 q0 => ?_
     simp only [↓bO, go_sem, seval, hdw]
     refine q0 _ ?_
     clear q0 Q0
     simp only [go_sem]
     refine aops_chunk 1 fun Q0 q0 => ?_
     simp only [↓bO, go_sem, seval, hdw]
     refine Close_at (rightsE es) hsP hrP (fun c hc hcb => ?_)
     rw [← hM] at hcb ⊢
     try simp only [bS, bA, thenQ, blockQ, noGotoQ]
     refine q0 _ ?_
     clear q0 Q0
     simp only [go_sem]
     refine aops_chunk 1 fun Q0 q0 => ?_
     simp only [↓bO, go_sem, seval, hdw]
     refine q0 _ ?_
     clear q0 Q0
     simp only [go_sem]
     simp only [↓bO, go_sem, seval, hdw]
     try simp only [maskL, setsL, putsO, putO, mB, List.set_cons_zero, List.set_cons_succ, seval]
     refine ⟨c, ⟨hc.colE hol, by rw [Bool.eq_iff_iff, hCS.clash_iff]; exact hcb⟩, ?_⟩
     refine Weak.freeze ?_ ⟨rfl, rfl, rfl, rfl, rfl, rfl, rfl, rfl, trivial⟩ (by first | omega | (simp only; omega)) (by first | omega | (simp only; omega)) ?_ ?_
     · repeat' first | trivial | exact .inr ⟨_, _, _, rfl, rfl, rfl, rfl⟩ | exact .inl (.refl _) | exact .inl (.any _) | (refine ⟨?_, ?_⟩)
     · repeat' first | exact trivial | exact .any _ | exact .ptr (by omega) | exact .own (by omega) | exact .v _ _ | exact Und.data (EqT.dataSl _) | exact Und.data (dataInts _) | exact Und.data (RNode.dataSl _) | exact Und.data (.eptr (.cons (RNode.dataSl _) (.cons (dataInts _) .nil))) | exact Und.eptr ⟨.ptr (by omega), .v _ _, trivial⟩ | exact Und.parts (by omega) _ | (refine ⟨?_, ?_⟩)
     · repeat' first | exact trivial | (with_reducible omega) | exact .any _ | exact .ptr (by omega) | exact .own (by omega) | exact .v _ _ | exact .map (by omega) | exact Und.oslG (by omega) | exact Und.rowI (nC_data _) | exact Und.rowI (iC_data _) | exact (fun p hp => .data (vC_data _ p hp)) | (refine ⟨?_, ?_⟩)
    simp only [maskL, setsL, putsO, putO, mB, List.set_cons_zero, List.set_cons_succ, seval]
    obtain ⟨hce, hclx⟩ := hcj
    have hcl := hce.len
    rw [← hM] at hcl
    refine AWp_seqK fun Y0 y0 => ?_
    refine AWp_seqK fun Y1 y1 => ?_
    refine AWp_region ?_
    refine aops_chunk 1 fun Q0 q0 => ?_
    simp only [↓bO, go_sem, seval, hdw]
    refine q0 _ ?_
    clear q0 Q0
    simp only [go_sem]
    simp only [↓bO, go_sem, seval, hdw]
    refine APure.call (Clash_pure M c hcl hML) ?_
    try simp only [bS, bA, thenQ, blockQ, noGotoQ]
    refine y1 _ ?_
    try clear y1 Y1
    refine AWp_cond rfl (fun hb48 => ?_) (fun hb48 => ?_)
    ·
     refine AWp_seqK fun Y1 y1 => ?_
     refine AWp_region ?_
     refine aops_chunk 1 fun Q0 q0 => ?_
     simp only [↓bO, go_sem, seval, hdw]
     refine APure.call (awake12_pure) ?_
     try simp only [bS, bA, thenQ, blockQ, noGotoQ]
     refine q0 _ ?_
     clear q0 Q0
     simp only [go_sem]
     simp only [↓bO, go_sem, seval, hdw]
     refine y1 _ ?_
     try clear y1 Y1
     refine AWp_ret ?_
     try simp only [thenQ, blockQ, noGotoQ, retQ, aRes, tupOf, bS, bA]
     exact Le.refl _
    ·
     have hcS : S.clash = false := by rw [← hclx]; simpa using hb48
     obtain ⟨hHS, hKS⟩ := hCS.good hcS
     have hPS : PSt ((rightsE es).map EqT.p) M c S := ⟨hHS, hce, hM, hML, by rw [hKS, hM]⟩
     refine AWp_skip ?_
     try simp only [thenQ, blockQ, noGotoQ]
     refine y0 _ ?_
     try clear y0 Y0
     refine AWp_seqK fun Y0 y0 => ?_
     refine AWp_region ?_
     iterate 2 (refine aops_chunk 1 fun Q0 q0 => ?_; simp only [↓bO, go_sem, seval, hdw]; refine q0 _ ?_; clear q0 Q0; simp only [go_sem])
     refine aops_chunk 1 fun Q0 q0 => ?_
     simp only [↓bO, go_sem, seval, hdw]
     refine APure.call (RGVars_pure M hML) ?_
     try simp only [bS, bA, thenQ, blockQ, noGotoQ]
     refine q0 _ ?_
     clear q0 Q0
     simp only [go_sem]
     simp only [↓bO, go_sem, seval, hdw]
     refine y0 _ ?_
     try clear y0 Y0
     refine AWp_seqK fun Y0 y0 => ?_
     obtain ⟨L, hL⟩ : ∃ L, L = varsI M := ⟨_, rfl⟩
     have hLl : L.length ≤ 1048576 := by rw [hL, ← hPS.sort, List.length_mergeSort, List.length_map]; exact hPS.vl
     rw [← hL]
     refine AWp_seqK fun Y1 y1 => ?_
     refine AWp_region ?_
     simp only [↓bO, go_sem, seval, hdw]
     refine y1 _ ?_
     try clear y1 Y1
     refine AWp_block ?_
     refine AWp_loopM (σ := FS × Nat) (mB 205 930) (fun x => FSame S.F x.1 ∧ x.2 ≤ L.length) (fun x => [(9, .v (.int .i64 (x.2 : Int)))]) (fun x => [(0, .cells 115 [.own 4 x.1.up.length, .own 5 x.1.rank.length, .v (.int .i64 x.1.sets), .v (.int .i64 x.1.steps)]), (4, .row 3 1 (x.1.up.map nC)), (5, .row 3 1 (x.1.rank.map intC))]) (fun x => L.length - x.2) (S.F, 0) (⟨FSame.refl hHS.2.w.c.f, Nat.zero_le _⟩) ?_ (fun x hx => ?_)
     ·
      simp only [maskL, setsL, putsO, putO, mB, List.set_cons_zero, List.set_cons_succ, seval]
      exact Weak.mk (by simp only [go_sem, Le.refl, Le.any, Le.slNil, Int.natCast_add, Int.cast_ofNat_Int, Int.natCast_one]) (fun _ _ h => h) rfl rfl
     simp only [maskL, setsL, putsO, putO, mB, List.set_cons_zero, List.set_cons_succ, seval]
     refine AWp_seqK fun Y1 y1 => ?_
     refine AWp_seqK fun Y2 y2 => ?_
     refine AWp_region ?_
     iterate 3 (refine aops_chunk 1 fun Q0 q0 => ?_; simp only [↓bO, go_sem, seval, hdw]; refine q0 _ ?_; clear q0 Q0; simp only [go_sem])
     simp only [↓bO, go_sem, seval, hdw]
     refine y2 _ ?_
     try clear y2 Y2
     refine AWp_cond rfl (fun hb56 => ?_) (fun hb56 => ?_)
     ·
      have hka : x.2 < L.length := by simpa using hb56
      obtain ⟨a, ha⟩ : ∃ a, L[x.2]? = some a := ⟨_, List.getElem?_eq_getElem hka⟩
      obtain ⟨q, hq1, hq2⟩ := var_idx (m := M) (n := a) (by rw [← hL]; exact List.mem_of_getElem? ha)
      have hva := var_at hPS hq1
      have hwa : IntKind.i64.wrap ((x.2 : Int) + 1) = (x.2 : Int) + 1 := wrap_in (by omega) (by omega)
      refine AWp_skip ?_
      try simp only [thenQ, blockQ, noGotoQ]
      refine y1 _ ?_
      try clear y1 Y1
      refine AWp_seqK fun Y1 y1 => ?_
      refine AWp_block ?_
      refine AWp_seqK fun Y2 y2 => ?_
      refine AWp_drawK 7 mixed (by kernel_rfl) fun J0 j0 => ?_
      iterate 6 (simp only [go_sem]; refine dRun_chunk 1 fun Q0 q0 => ?_; simp only [↓dRun, ↓dOp, ↓bO, go_sem, seval, hdw, hka, hq1, gM ha, hwa, intC, Int.natCast_add]; refine q0 _ ?_; clear q0 Q0)
      simp only [go_sem]
      simp only [↓dRun, ↓dOp, ↓bO, go_sem, seval, hdw, hka, hq1, gM ha, hwa, intC, Int.natCast_add]
      refine ⟨_, RVar_pure M a, ?_⟩
      try simp only [bS, bA, thenQ, blockQ, noGotoQ]
      refine j0 _ ?_
      clear j0 J0
      simp only [go_sem]
      simp only [↓bO, go_sem, seval, hdw, hka, hq1, gM ha, hwa, intC, Int.natCast_add]
      refine y2 _ ?_
      try clear y2 Y2
      refine AWp_seqK fun Y2 y2 => ?_
      refine AWp_region ?_
      iterate 2 (refine aops_chunk 1 fun Q0 q0 => ?_; simp only [↓bO, go_sem, seval, hdw, hka, hq1, gM ha, hwa, intC, Int.natCast_add]; refine q0 _ ?_; clear q0 Q0; simp only [go_sem])
      refine aops_chunk 1 fun Q0 q0 => ?_
      simp only [↓bO, go_sem, seval, hdw, hka, hq1, gM ha, hwa, intC, Int.natCast_add]
      refine APure.call (Whole_pure M c q hq2 hcl hML) ?_
      try simp only [bS, bA, thenQ, blockQ, noGotoQ]
      refine q0 _ ?_
      clear q0 Q0
      simp only [go_sem]
      simp only [↓bO, go_sem, seval, hdw, hka, hq1, gM ha, hwa, intC, Int.natCast_add]
      refine y2 _ ?_
      try clear y2 Y2
      refine AWp_seqK fun Y2 y2 => ?_
      refine AWp_region ?_
      iterate 5 (refine aops_chunk 1 fun Q0 q0 => ?_; simp only [↓bO, go_sem, seval, hdw, hka, hq1, gM ha, hwa, intC, Int.natCast_add]; refine q0 _ ?_; clear q0 Q0; simp only [go_sem])
      refine aops_chunk 1 fun Q0 q0 => ?_
      simp only [↓bO, go_sem, seval, hdw, hka, hq1, gM ha, hwa, intC, Int.natCast_add]
      refine CCalls.atP (R' := fun s => .tup [.sl 2 (s.1.map (partC 3)), .v (.bool s.2)]) (CParts_c { S with F := x.1 } (hPS.fsame hx.1).h.2.w.c.pl hx.1.inv (hPS.fsame hx.1).h.2.vin (hPS.fsame hx.1).h.2.w.c.fl (hPS.fsame hx.1).h.2.w.c.wr (hPS.fsame hx.1).g0 hcS a (q : Int) hva) (i0 := 3) (i1 := 2) (i2 := 7) (i3 := 1) (i4 := 0) (i5 := 4) (i6 := 5) (i7 := 6) (by exact ⟨.ptr rfl, .v _, trivial⟩) (fun _ => by exact .tup ⟨.parts rfl _, .v _, trivial⟩) (by decide) (by simp) ⟨rfl, rfl, rfl, rfl, rfl, rfl, rfl, rfl, trivial⟩ (fun Z1 k1 hX1 => ?_)
      try dsimp only at hX1
      simp only [cObsAt, List.zip_cons_cons, List.zip_nil_left, List.zip_nil_right, putsO, putO, Nat.reduceEqDiff, ↓reduceIte]
      obtain ⟨F1, rfl⟩ : ∃ F1, Z1 = { S with F := F1 } := ⟨Z1.F, hX1.2.1⟩
      dsimp only at hX1
      obtain ⟨rs, okb⟩ := k1
      dsimp only at hX1
      have hF1 : FSame S.F F1 := hx.1.trans hX1.1
      obtain ⟨r0, x0, hr0, hx0, hres⟩ := hX1.2.2
      have hr0S := (hx.1.rt _ _).1 hr0
      rw [Int.toNat_natCast] at hr0S
      have hP := hPS.part hq2 hr0S hx0
      have hRs : Roots S x0 rs := by (rcases hres with ⟨h1, h2, _⟩ | ⟨h1, _, g, h2, h3, h4⟩; exact .inl ⟨h1, h2⟩; exact .inr ⟨h1, g, h2, h3, fun j p q hp hq => (hx.1.rt _ _).1 (h4 j p q hp hq)⟩)
      have hok : okb = decide (0 ≤ wholeI M c q) := okb_eq hP (by rcases hres with ⟨h1, _, h2⟩ | ⟨h1, h2, _⟩; exact .inl ⟨h1, h2⟩; exact .inr ⟨h1, h2⟩)
      try simp only [bS, bA, thenQ, blockQ, noGotoQ]
      iterate 4 (refine q0 _ ?_; clear q0 Q0; simp only [go_sem]; refine aops_chunk 1 fun Q0 q0 => ?_; simp only [↓bO, go_sem, seval, hdw, hka, hq1, gM ha, hwa, intC, Int.natCast_add])
      refine q0 _ ?_
      clear q0 Q0
      simp only [go_sem]
      simp only [↓bO, go_sem, seval, hdw, hka, hq1, gM ha, hwa, intC, Int.natCast_add]
      refine y2 _ ?_
      try clear y2 Y2
      refine AWp_seqK fun Y2 y2 => ?_
      refine AWp_joinM (mB 205 40564819207303340847894502580130) ([(105, .v (.bool false))]) ([]) ?_ ?_
      ·
       refine AWp_region ?_
       iterate 5 (refine aops_chunk 1 fun Q0 q0 => ?_; simp only [↓bO, go_sem, seval, hdw, hka, hq1, gM ha, hwa, intC, Int.natCast_add]; refine q0 _ ?_; clear q0 Q0; simp only [go_sem])
       refine aops_case 82 rfl (fun hc82 => ?_) (fun hc82 => ?_)
       ·
        simp only [List.set_cons_zero, List.set_cons_succ]
        exact absurd hc82 (by rw [hok]; simp)
       ·
        simp only [List.set_cons_zero, List.set_cons_succ]
        iterate 2 (refine aops_chunk 1 fun Q0 q0 => ?_; simp only [↓bO, go_sem, seval, hdw, hka, hq1, gM ha, hwa, intC, Int.natCast_add]; refine q0 _ ?_; clear q0 Q0; simp only [go_sem])
        refine aops_case 84 rfl (fun hc84 => ?_) (fun hc84 => ?_)
        ·
         simp only [List.set_cons_zero, List.set_cons_succ]
         have hw0 : ¬ wholeI M c q < 0 := by (have h9 : okb = true := hc84; rw [hok] at h9; simp at h9; omega)
         obtain ⟨k, yk, hwk, hk, hyk, hlen, hl8, hall⟩ := hP.roots hRs hw0
         have hkM : (k : Int) < (M.length : Int) := by omega
         iterate 13 (refine aops_chunk 1 fun Q0 q0 => ?_; simp only [↓bO, go_sem, seval, hdw, hka, hq1, gM ha, hwa, intC, Int.natCast_add, hwk, hkM, gM hyk, RNode.cells]; refine q0 _ ?_; clear q0 Q0; simp only [go_sem])
         refine aops_case 97 rfl (fun hc97 => ?_) (fun hc97 => ?_)
         ·
          simp only [List.set_cons_zero, List.set_cons_succ]
          exact absurd hc97 (by simp; omega)
         ·
          simp only [List.set_cons_zero, List.set_cons_succ]
          iterate 3 (refine aops_chunk 1 fun Q0 q0 => ?_; simp only [↓bO, go_sem, seval, hdw, hka, hq1, gM ha, hwa, intC, Int.natCast_add, hwk, hkM, gM hyk, RNode.cells]; refine q0 _ ?_; clear q0 Q0; simp only [go_sem])
          refine aops_case 100 rfl (fun hc100 => ?_) (fun hc100 => ?_)
          ·
           simp only [List.set_cons_zero, List.set_cons_succ]
           have hrs0 : rs = [] := rs_nil hP hRs (by rw [← hok]; simpa using hc100)
           subst hrs0
           iterate 4 (refine aops_chunk 1 fun Q0 q0 => ?_; simp only [↓bO, go_sem, seval, hdw, hka, hq1, gM ha, hwa, intC, Int.natCast_add, hwk, hkM, gM hyk, RNode.cells]; refine q0 _ ?_; clear q0 Q0; simp only [go_sem])
           simp only [↓bO, go_sem, seval, hdw, hka, hq1, gM ha, hwa, intC, Int.natCast_add, hwk, hkM, gM hyk, RNode.cells]
           try simp only [maskL, setsL, putsO, putO, mB, List.set_cons_zero, List.set_cons_succ, seval]
           exact Weak.mk (by simp only [go_sem, Le.refl, Le.any]) (fun _ _ h => h) rfl rfl
          ·
           simp only [List.set_cons_zero, List.set_cons_succ]
           iterate 4 (refine aops_chunk 1 fun Q0 q0 => ?_; simp only [↓bO, go_sem, seval, hdw, hka, hq1, gM ha, hwa, intC, Int.natCast_add, hwk, hkM, gM hyk, RNode.cells]; refine q0 _ ?_; clear q0 Q0; simp only [go_sem])
           simp only [↓bO, go_sem, seval, hdw, hka, hq1, gM ha, hwa, intC, Int.natCast_add, hwk, hkM, gM hyk, RNode.cells]
           try simp only [maskL, setsL, putsO, putO, mB, List.set_cons_zero, List.set_cons_succ, seval]
           exact Weak.mk (by simp only [go_sem, Le.refl, Le.any]) (fun _ _ h => h) rfl rfl
        ·
         simp only [List.set_cons_zero, List.set_cons_succ]
         iterate 16 (refine aops_chunk 1 fun Q0 q0 => ?_; simp only [↓bO, go_sem, seval, hdw, hka, hq1, gM ha, hwa, intC, Int.natCast_add]; refine q0 _ ?_; clear q0 Q0; simp only [go_sem])
         refine aops_case 100 rfl (fun hc100 => ?_) (fun hc100 => ?_)
         ·
          simp only [List.set_cons_zero, List.set_cons_succ]
          have hrs0 : rs = [] := rs_nil hP hRs (by rw [← hok]; simpa using hc100)
          subst hrs0
          iterate 4 (refine aops_chunk 1 fun Q0 q0 => ?_; simp only [↓bO, go_sem, seval, hdw, hka, hq1, gM ha, hwa, intC, Int.natCast_add]; refine q0 _ ?_; clear q0 Q0; simp only [go_sem])
          simp only [↓bO, go_sem, seval, hdw, hka, hq1, gM ha, hwa, intC, Int.natCast_add]
          try simp only [maskL, setsL, putsO, putO, mB, List.set_cons_zero, List.set_cons_succ, seval]
          exact Weak.mk (by simp only [go_sem, Le.refl, Le.any]) (fun _ _ h => h) rfl rfl
         ·
          simp only [List.set_cons_zero, List.set_cons_succ]
          iterate 4 (refine aops_chunk 1 fun Q0 q0 => ?_; simp only [↓bO, go_sem, seval, hdw, hka, hq1, gM ha, hwa, intC, Int.natCast_add]; refine q0 _ ?_; clear q0 Q0; simp only [go_sem])
          simp only [↓bO, go_sem, seval, hdw, hka, hq1, gM ha, hwa, intC, Int.natCast_add]
          try simp only [maskL, setsL, putsO, putO, mB, List.set_cons_zero, List.set_cons_succ, seval]
          exact Weak.mk (by simp only [go_sem, Le.refl, Le.any]) (fun _ _ h => h) rfl rfl
      simp only [maskL, setsL, putsO, putO, mB, List.set_cons_zero, List.set_cons_succ, seval]
      refine AWp_cond rfl (fun hb105 => ?_) (fun hb105 => ?_)
      ·
       cases hb105
      ·
       refine AWp_skip ?_
       try simp only [thenQ, blockQ, noGotoQ]
       refine y2 _ ?_
       try clear y2 Y2
       refine AWp_seqK fun Y2 y2 => ?_
       refine AWp_seqK fun Y3 y3 => ?_
       refine AWp_region ?_
       simp only [↓bO, go_sem, seval, hdw, hka, hq1, gM ha, hwa, intC, Int.natCast_add]
       refine y3 _ ?_
       try clear y3 Y3
       refine AWp_block ?_
       refine AWp_loopM (σ := FS × Nat) (mB 205 24482) (fun y => FSame S.F y.1 ∧ y.2 ≤ rs.length) (fun y => [(14, .v (.int .i64 (y.2 : Int)))]) (fun y => [(0, .cells 115 [.own 4 y.1.up.length, .own 5 y.1.rank.length, .v (.int .i64 y.1.sets), .v (.int .i64 y.1.steps)]), (4, .row 3 1 (y.1.up.map nC)), (5, .row 3 1 (y.1.rank.map intC))]) (fun y => rs.length - y.2) (F1, 0) (⟨hF1, Nat.zero_le _⟩) ?_ (fun y hy => ?_)
       ·
        simp only [maskL, setsL, putsO, putO, mB, List.set_cons_zero, List.set_cons_succ, seval]
        exact Weak.mk (by simp only [go_sem, Le.refl, Le.any, Le.slNil, Int.natCast_add, Int.cast_ofNat_Int, Int.natCast_one]) (fun _ _ h => h) rfl rfl
       simp only [maskL, setsL, putsO, putO, mB, List.set_cons_zero, List.set_cons_succ, seval]
       refine AWp_seqK fun Y3 y3 => ?_
       refine AWp_seqK fun Y4 y4 => ?_
       refine AWp_region ?_
       iterate 3 (refine aops_chunk 1 fun Q0 q0 => ?_; simp only [↓bO, go_sem, seval, hdw, hka, hq1, gM ha, hwa, intC, Int.natCast_add]; refine q0 _ ?_; clear q0 Q0; simp only [go_sem])
       simp only [↓bO, go_sem, seval, hdw, hka, hq1, gM ha, hwa, intC, Int.natCast_add]
       refine y4 _ ?_
       try clear y4 Y4
       refine AWp_cond rfl (fun hb109 => ?_) (fun hb109 => ?_)
       ·
        have hkj : y.2 < rs.length := by simpa using hb109
        have hw0 : ¬ wholeI M c q < 0 := fun h9 => by (rcases hRs with ⟨_, h8⟩ | ⟨h8, _⟩; rw [h8] at hkj; exact absurd hkj (by simp); have h7 := hP.neg; omega)
        obtain ⟨k, yk, hwk, hk, hyk, hlen, hl8, hall⟩ := hP.roots hRs hw0
        have hkM : (k : Int) < (M.length : Int) := by omega
        obtain ⟨r3, hr3⟩ : ∃ z, rs[y.2]? = some z := ⟨_, List.getElem?_eq_getElem hkj⟩
        obtain ⟨q2, hyq, hq22, hqr⟩ := hall y.2 r3 hr3
        have hjy := (List.getElem?_eq_some_iff.1 hyq).1
        have hwj : IntKind.i64.wrap ((y.2 : Int) + 1) = (y.2 : Int) + 1 := wrap_in (by omega) (by omega)
        refine AWp_skip ?_
        try simp only [thenQ, blockQ, noGotoQ]
        refine y3 _ ?_
        try clear y3 Y3
        refine AWp_seqK fun Y3 y3 => ?_
        refine AWp_block ?_
        refine AWp_seqK fun Y4 y4 => ?_
        refine AWp_drawK 17 mixed (by kernel_rfl) fun J0 j0 => ?_
        iterate 16 (simp only [go_sem]; refine dRun_chunk 1 fun Q0 q0 => ?_; simp only [↓dRun, ↓dOp, ↓bO, go_sem, seval, hdw, hka, hq1, gM ha, hwa, intC, Int.natCast_add, hkj, hjy, hwk, hkM, gM hyk, RNode.cells, gM hr3, gM hyq, partC, hwj]; refine q0 _ ?_; clear q0 Q0)
        simp only [go_sem]
        simp only [↓dRun, ↓dOp, ↓bO, go_sem, seval, hdw, hka, hq1, gM ha, hwa, intC, Int.natCast_add, hkj, hjy, hwk, hkM, gM hyk, RNode.cells, gM hr3, gM hyq, partC, hwj]
        refine j0 _ ?_
        clear j0 J0
        simp only [go_sem]
        refine aops_chunk 1 fun Q0 q0 => ?_
        simp only [↓bO, go_sem, seval, hdw, hka, hq1, gM ha, hwa, intC, Int.natCast_add, hkj, hjy, hwk, hkM, gM hyk, RNode.cells, gM hr3, gM hyq, partC, hwj]
        refine CCalls.atP (parts_c (d % 3) { S with F := y.1 } (hPS.fsame hy.1) q2 r3 (by omega) hq22 ((hy.1.rt _ _).2 hqr)) (i0 := 3) (i1 := 2) (i2 := 7) (i3 := 1) (i4 := 0) (i5 := 4) (i6 := 5) (i7 := 6) (by exact ⟨.agg ⟨.ptr rfl, .v _, trivial⟩, .data (RNode.oneData _ _), .v _, .v _, trivial⟩) (fun _ => by exact .v _) (by decide) (by simp) ⟨rfl, rfl, rfl, rfl, rfl, rfl, rfl, rfl, trivial⟩ (fun Z2 u2 hX2 => ?_)
        try dsimp only at hX2
        simp only [cObsAt, List.zip_cons_cons, List.zip_nil_left, List.zip_nil_right, putsO, putO, Nat.reduceEqDiff, ↓reduceIte]
        obtain ⟨F2, rfl⟩ : ∃ F, Z2 = { S with F := F } := ⟨Z2.F, hX2.2⟩
        have hF2 : FSame S.F F2 := hy.1.trans hX2.1
        try simp only [bS, bA, thenQ, blockQ, noGotoQ]
        refine q0 _ ?_
        clear q0 Q0
        simp only [go_sem]
        simp only [↓bO, go_sem, seval, hdw, hka, hq1, gM ha, hwa, intC, Int.natCast_add, hkj, hjy, hwk, hkM, gM hyk, RNode.cells, gM hr3, gM hyq, partC, hwj]
        refine y4 _ ?_
        try clear y4 Y4
        refine AWp_cond rfl (fun hb130 => ?_) (fun hb130 => ?_)
        ·
         exact absurd hb130 (by simp)
        ·
         refine AWp_skip ?_
         try simp only [thenQ, blockQ, noGotoQ]
         refine y3 _ ?_
         try clear y3 Y3
         refine AWp_region ?_
         iterate 2 (refine aops_chunk 1 fun Q0 q0 => ?_; simp only [↓bO, go_sem, seval, hdw, hka, hq1, gM ha, hwa, intC, Int.natCast_add, hkj, hjy, hwk, hkM, gM hyk, RNode.cells, gM hr3, gM hyq, partC, hwj]; refine q0 _ ?_; clear q0 Q0; simp only [go_sem])
         simp only [↓bO, go_sem, seval, hdw, hka, hq1, gM ha, hwa, intC, Int.natCast_add, hkj, hjy, hwk, hkM, gM hyk, RNode.cells, gM hr3, gM hyq, partC, hwj]
         refine ⟨(F2, y.2 + 1), ⟨hF2, by simp only; omega⟩, (by simp only; omega), ?_⟩
         simp only [maskL, setsL, putsO, putO, mB, List.set_cons_zero, List.set_cons_succ, seval, Int.natCast_add, Int.natCast_one, Int.cast_ofNat_Int]
         refine Weak.sub ?_ ⟨rfl, rfl, rfl, rfl, rfl, rfl, rfl, rfl, trivial⟩ (by first | omega | (simp only; omega)) (by first | omega | (simp only; omega)) ?_ ?_
         · simp only [go_sem, Le.refl, Le.any]
         · repeat' first | exact trivial | exact .any _ | exact .ptr (by omega) | exact .own (by omega) | exact .v _ _ | exact Und.data (EqT.dataSl _) | exact Und.data (dataInts _) | exact Und.data (RNode.dataSl _) | exact Und.data (.eptr (.cons (RNode.dataSl _) (.cons (dataInts _) .nil))) | exact Und.eptr ⟨.ptr (by omega), .v _ _, trivial⟩ | exact Und.parts (by omega) _ | (refine ⟨?_, ?_⟩)
         · repeat' first | exact trivial | (with_reducible omega) | exact .any _ | exact .ptr (by omega) | exact .own (by omega) | exact .v _ _ | exact .map (by omega) | exact Und.oslG (by omega) | exact Und.rowI (nC_data _) | exact Und.rowI (iC_data _) | exact (fun p hp => .data (vC_data _ p hp)) | (refine ⟨?_, ?_⟩)
       ·
        refine AWp_exit ?_
        simp only [thenQ, blockQ, noGotoQ, bA, Nat.reduceEqDiff, ↓reduceIte]
        refine y2 _ ?_
        try clear y2 Y2
        refine AWp_joinF (σ := FS × Nat) (mB 205 100258) (fun y2 => [(15, .eptr [.ptr 3 0, .v (.int .i64 (y2.2 : Int))]), (16, .v (.bool true))]) (fun y2 => [(3, .cells 89 [.v (.int .i64 { S with F := y2.1 }.steps), .ptr 2 0, .ptr 0 0, .own 6 { S with F := y2.1 }.W.length, .v (.bool { S with F := y2.1 }.clash)]), (2, .cells 118 [.osl 7 4 ({ S with F := y2.1 }.G.N.map GNode.cells), .map 1]), (7, .tok 128 4 { S with F := y2.1 }.G.N.length), (1, .map ({ S with F := y2.1 }.G.V.map vC)), (0, .cells 115 [.own 4 { S with F := y2.1 }.F.up.length, .own 5 { S with F := y2.1 }.F.rank.length, .v (.int .i64 { S with F := y2.1 }.F.sets), .v (.int .i64 { S with F := y2.1 }.F.steps)]), (4, .row 3 1 ({ S with F := y2.1 }.F.up.map nC)), (5, .row 3 1 ({ S with F := y2.1 }.F.rank.map intC)), (6, .row 3 1 ({ S with F := y2.1 }.W.map intC))]) 8 (fun y2 => FSame S.F y2.1 ∧ Rt S.F.up q y2.2) ?_ (fun y2 hy2 => ?_)
        ·
         refine AWp_region ?_
         iterate 5 (refine aops_chunk 1 fun Q0 q0 => ?_; simp only [↓bO, go_sem, seval, hdw, hka, hq1, gM ha, hwa, intC, Int.natCast_add]; refine q0 _ ?_; clear q0 Q0; simp only [go_sem])
         refine aops_chunk 1 fun Q0 q0 => ?_
         simp only [↓bO, go_sem, seval, hdw, hka, hq1, gM ha, hwa, intC, Int.natCast_add]
         refine CCalls.atP (R' := fun s => .tup [.agg (partC 3 s), .v (.bool true)]) (CPart_c { S with F := y.1 } hy.1.inv (hPS.fsame hy.1).h.2.vin hcS a (q : Int) hva) (i0 := 3) (i1 := 2) (i2 := 7) (i3 := 1) (i4 := 0) (i5 := 4) (i6 := 5) (i7 := 6) (by exact ⟨.ptr rfl, .v _, trivial⟩) (fun _ => by exact .tup ⟨.part rfl _, .v _, trivial⟩) (by decide) (by simp) ⟨rfl, rfl, rfl, rfl, rfl, rfl, rfl, rfl, trivial⟩ (fun Z3 r1 hX3 => ?_)
         try dsimp only at hX3
         simp only [cObsAt, List.zip_cons_cons, List.zip_nil_left, List.zip_nil_right, putsO, putO, Nat.reduceEqDiff, ↓reduceIte]
         obtain ⟨F3, rfl⟩ : ∃ F3, Z3 = { S with F := F3 } := ⟨Z3.F, hX3.2.1⟩
         dsimp only at hX3
         have hF3 : FSame S.F F3 := hy.1.trans hX3.1
         have hr1 := (hy.1.rt _ _).1 hX3.2.2
         rw [Int.toNat_natCast] at hr1
         try simp only [bS, bA, thenQ, blockQ, noGotoQ]
         iterate 5 (refine q0 _ ?_; clear q0 Q0; simp only [go_sem]; refine aops_chunk 1 fun Q0 q0 => ?_; simp only [↓bO, go_sem, seval, hdw, hka, hq1, gM ha, hwa, intC, Int.natCast_add, partC])
         refine q0 _ ?_
         clear q0 Q0
         simp only [go_sem]
         simp only [↓bO, go_sem, seval, hdw, hka, hq1, gM ha, hwa, intC, Int.natCast_add, partC]
         try simp only [maskL, setsL, putsO, putO, mB, List.set_cons_zero, List.set_cons_succ, seval]
         refine ⟨(F3, r1), ⟨hF3, hr1⟩, ?_⟩
         refine Weak.freeze ?_ ⟨rfl, rfl, rfl, rfl, rfl, rfl, rfl, rfl, trivial⟩ (by first | omega | (simp only; omega)) (by first | omega | (simp only; omega)) ?_ ?_
         · repeat' first | trivial | exact .inr ⟨_, _, _, rfl, rfl, rfl, rfl⟩ | exact .inl (.refl _) | exact .inl (.any _) | (refine ⟨?_, ?_⟩)
         · repeat' first | exact trivial | exact .any _ | exact .ptr (by omega) | exact .own (by omega) | exact .v _ _ | exact Und.data (EqT.dataSl _) | exact Und.data (dataInts _) | exact Und.data (RNode.dataSl _) | exact Und.data (.eptr (.cons (RNode.dataSl _) (.cons (dataInts _) .nil))) | exact Und.eptr ⟨.ptr (by omega), .v _ _, trivial⟩ | exact Und.parts (by omega) _ | (refine ⟨?_, ?_⟩)
         · repeat' first | exact trivial | (with_reducible omega) | exact .any _ | exact .ptr (by omega) | exact .own (by omega) | exact .v _ _ | exact .map (by omega) | exact Und.oslG (by omega) | exact Und.rowI (nC_data _) | exact Und.rowI (iC_data _) | exact (fun p hp => .data (vC_data _ p hp)) | (refine ⟨?_, ?_⟩)
        simp only [maskL, setsL, putsO, putO, mB, List.set_cons_zero, List.set_cons_succ, seval]
        obtain ⟨F3, r1⟩ := y2
        obtain ⟨hF3, hr1⟩ := hy2
        dsimp only at hF3 hr1
        dsimp only
        refine AWp_seqK fun Y2 y2 => ?_
        refine AWp_seqK fun Y3 y3 => ?_
        refine AWp_region ?_
        iterate 3 (refine aops_chunk 1 fun Q0 q0 => ?_; simp only [↓bO, go_sem, seval, hdw, hka, hq1, gM ha, hwa, intC, Int.natCast_add]; refine q0 _ ?_; clear q0 Q0; simp only [go_sem])
        refine aops_case 142 rfl (fun hc142 => ?_) (fun hc142 => ?_)
        ·
         simp only [List.set_cons_zero, List.set_cons_succ]
         exact absurd hc142 (by simp)
        ·
         simp only [List.set_cons_zero, List.set_cons_succ]
         iterate 6 (refine aops_chunk 1 fun Q0 q0 => ?_; simp only [↓bO, go_sem, seval, hdw, hka, hq1, gM ha, hwa, intC, Int.natCast_add]; refine q0 _ ?_; clear q0 Q0; simp only [go_sem])
         refine aops_chunk 1 fun Q0 q0 => ?_
         simp only [↓bO, go_sem, seval, hdw, hka, hq1, gM ha, hwa, intC, Int.natCast_add]
         refine CCalls.atP (parts_c (d % 3) { S with F := F3 } (hPS.fsame hF3) q r1 (by omega) hq2 ((hF3.rt _ _).2 hr1)) (i0 := 3) (i1 := 2) (i2 := 7) (i3 := 1) (i4 := 0) (i5 := 4) (i6 := 5) (i7 := 6) (by exact ⟨.agg ⟨.ptr rfl, .v _, trivial⟩, .data (RNode.oneData _ _), .v _, .v _, trivial⟩) (fun _ => by exact .v _) (by decide) (by simp) ⟨rfl, rfl, rfl, rfl, rfl, rfl, rfl, rfl, trivial⟩ (fun Z4 u4 hX4 => ?_)
         try dsimp only at hX4
         simp only [cObsAt, List.zip_cons_cons, List.zip_nil_left, List.zip_nil_right, putsO, putO, Nat.reduceEqDiff, ↓reduceIte]
         obtain ⟨F4, rfl⟩ : ∃ F, Z4 = { S with F := F } := ⟨Z4.F, hX4.2⟩
         have hF4 : FSame S.F F4 := hF3.trans hX4.1
         try simp only [bS, bA, thenQ, blockQ, noGotoQ]
         refine q0 _ ?_
         clear q0 Q0
         simp only [go_sem]
         refine aops_chunk 1 fun Q0 q0 => ?_
         simp only [↓bO, go_sem, seval, hdw, hka, hq1, gM ha, hwa, intC, Int.natCast_add]
         refine q0 _ ?_
         clear q0 Q0
         simp only [go_sem]
         simp only [↓bO, go_sem, seval, hdw, hka, hq1, gM ha, hwa, intC, Int.natCast_add]
         refine y3 _ ?_
         try clear y3 Y3
         refine AWp_cond rfl (fun hb151 => ?_) (fun hb151 => ?_)
         ·
          exact absurd hb151 (by simp)
         ·
          refine AWp_skip ?_
          try simp only [thenQ, blockQ, noGotoQ]
          refine y2 _ ?_
          try clear y2 Y2
          refine AWp_seqK fun Y2 y2 => ?_
          refine AWp_region ?_
          simp only [↓bO, go_sem, seval, hdw, hka, hq1, gM ha, hwa, intC, Int.natCast_add]
          refine y2 _ ?_
          try clear y2 Y2
          refine AWp_block ?_
          refine AWp_loopM (σ := FS × Nat) (mB 205 164770) (fun z => FSame S.F z.1 ∧ z.2 ≤ L.length) (fun z => [(17, .v (.int .i64 (z.2 : Int)))]) (fun z => [(0, .cells 115 [.own 4 z.1.up.length, .own 5 z.1.rank.length, .v (.int .i64 z.1.sets), .v (.int .i64 z.1.steps)]), (4, .row 3 1 (z.1.up.map nC)), (5, .row 3 1 (z.1.rank.map intC))]) (fun z => L.length - z.2) (F4, 0) (⟨hF4, Nat.zero_le _⟩) ?_ (fun z hz => ?_)
          ·
           simp only [maskL, setsL, putsO, putO, mB, List.set_cons_zero, List.set_cons_succ, seval]
           exact Weak.mk (by simp only [go_sem, Le.refl, Le.any, Le.slNil, Int.natCast_add, Int.cast_ofNat_Int, Int.natCast_one]) (fun _ _ h => h) rfl rfl
          simp only [maskL, setsL, putsO, putO, mB, List.set_cons_zero, List.set_cons_succ, seval]
          refine AWp_seqK fun Y2 y2 => ?_
          refine AWp_seqK fun Y3 y3 => ?_
          refine AWp_region ?_
          iterate 3 (refine aops_chunk 1 fun Q0 q0 => ?_; simp only [↓bO, go_sem, seval, hdw, hka, hq1, gM ha, hwa, intC, Int.natCast_add]; refine q0 _ ?_; clear q0 Q0; simp only [go_sem])
          simp only [↓bO, go_sem, seval, hdw, hka, hq1, gM ha, hwa, intC, Int.natCast_add]
          refine y3 _ ?_
          try clear y3 Y3
          refine AWp_cond rfl (fun hb155 => ?_) (fun hb155 => ?_)
          ·
           have hkb : z.2 < L.length := by simpa using hb155
           obtain ⟨b, hb⟩ : ∃ b, L[z.2]? = some b := ⟨_, List.getElem?_eq_getElem hkb⟩
           obtain ⟨p, hp1, hp2⟩ := var_idx (m := M) (n := b) (by rw [← hL]; exact List.mem_of_getElem? hb)
           have hvb := var_at hPS hp1
           have hwb : IntKind.i64.wrap ((z.2 : Int) + 1) = (z.2 : Int) + 1 := wrap_in (by omega) (by omega)
           refine AWp_skip ?_
           try simp only [thenQ, blockQ, noGotoQ]
           refine y2 _ ?_
           try clear y2 Y2
           refine AWp_seqK fun Y2 y2 => ?_
           refine AWp_block ?_
           refine AWp_joinF (σ := FS × Nat) (mB 205 426914) (fun y3 => [(18, .eptr [.ptr 3 0, .v (.int .i64 (y3.2 : Int))])]) (fun y3 => [(3, .cells 89 [.v (.int .i64 { S with F := y3.1 }.steps), .ptr 2 0, .ptr 0 0, .own 6 { S with F := y3.1 }.W.length, .v (.bool { S with F := y3.1 }.clash)]), (2, .cells 118 [.osl 7 4 ({ S with F := y3.1 }.G.N.map GNode.cells), .map 1]), (7, .tok 128 4 { S with F := y3.1 }.G.N.length), (1, .map ({ S with F := y3.1 }.G.V.map vC)), (0, .cells 115 [.own 4 { S with F := y3.1 }.F.up.length, .own 5 { S with F := y3.1 }.F.rank.length, .v (.int .i64 { S with F := y3.1 }.F.sets), .v (.int .i64 { S with F := y3.1 }.F.steps)]), (4, .row 3 1 ({ S with F := y3.1 }.F.up.map nC)), (5, .row 3 1 ({ S with F := y3.1 }.F.rank.map intC)), (6, .row 3 1 ({ S with F := y3.1 }.W.map intC))]) 8 (fun y3 => FSame S.F y3.1 ∧ Rt S.F.up p y3.2) ?_ (fun y3 hy3 => ?_)
           ·
            refine AWp_region ?_
            iterate 5 (refine aops_chunk 1 fun Q0 q0 => ?_; simp only [↓bO, go_sem, seval, hdw, hka, hq1, gM ha, hwa, intC, Int.natCast_add, hkb, gM hb, hwb]; refine q0 _ ?_; clear q0 Q0; simp only [go_sem])
            refine aops_chunk 1 fun Q0 q0 => ?_
            simp only [↓bO, go_sem, seval, hdw, hka, hq1, gM ha, hwa, intC, Int.natCast_add, hkb, gM hb, hwb]
            refine CCalls.atP (R' := fun s => .tup [.agg (partC 3 s), .v (.bool true)]) (CPart_c { S with F := z.1 } hz.1.inv (hPS.fsame hz.1).h.2.vin hcS b (p : Int) hvb) (i0 := 3) (i1 := 2) (i2 := 7) (i3 := 1) (i4 := 0) (i5 := 4) (i6 := 5) (i7 := 6) (by exact ⟨.ptr rfl, .v _, trivial⟩) (fun _ => by exact .tup ⟨.part rfl _, .v _, trivial⟩) (by decide) (by simp) ⟨rfl, rfl, rfl, rfl, rfl, rfl, rfl, rfl, trivial⟩ (fun Z5 r2 hX5 => ?_)
            try dsimp only at hX5
            simp only [cObsAt, List.zip_cons_cons, List.zip_nil_left, List.zip_nil_right, putsO, putO, Nat.reduceEqDiff, ↓reduceIte]
            obtain ⟨F5, rfl⟩ : ∃ F5, Z5 = { S with F := F5 } := ⟨Z5.F, hX5.2.1⟩
            dsimp only at hX5
            have hF5 : FSame S.F F5 := hz.1.trans hX5.1
            have hr2 := (hz.1.rt _ _).1 hX5.2.2
            rw [Int.toNat_natCast] at hr2
            try simp only [bS, bA, thenQ, blockQ, noGotoQ]
            iterate 5 (refine q0 _ ?_; clear q0 Q0; simp only [go_sem]; refine aops_chunk 1 fun Q0 q0 => ?_; simp only [↓bO, go_sem, seval, hdw, hka, hq1, gM ha, hwa, intC, Int.natCast_add, hkb, gM hb, hwb, partC])
            refine q0 _ ?_
            clear q0 Q0
            simp only [go_sem]
            simp only [↓bO, go_sem, seval, hdw, hka, hq1, gM ha, hwa, intC, Int.natCast_add, hkb, gM hb, hwb, partC]
            try simp only [maskL, setsL, putsO, putO, mB, List.set_cons_zero, List.set_cons_succ, seval]
            refine ⟨(F5, r2), ⟨hF5, hr2⟩, ?_⟩
            refine Weak.freeze ?_ ⟨rfl, rfl, rfl, rfl, rfl, rfl, rfl, rfl, trivial⟩ (by first | omega | (simp only; omega)) (by first | omega | (simp only; omega)) ?_ ?_
            · repeat' first | trivial | exact .inr ⟨_, _, _, rfl, rfl, rfl, rfl⟩ | exact .inl (.refl _) | exact .inl (.any _) | (refine ⟨?_, ?_⟩)
            · repeat' first | exact trivial | exact .any _ | exact .ptr (by omega) | exact .own (by omega) | exact .v _ _ | exact Und.data (EqT.dataSl _) | exact Und.data (dataInts _) | exact Und.data (RNode.dataSl _) | exact Und.data (.eptr (.cons (RNode.dataSl _) (.cons (dataInts _) .nil))) | exact Und.eptr ⟨.ptr (by omega), .v _ _, trivial⟩ | exact Und.parts (by omega) _ | (refine ⟨?_, ?_⟩)
            · repeat' first | exact trivial | (with_reducible omega) | exact .any _ | exact .ptr (by omega) | exact .own (by omega) | exact .v _ _ | exact .map (by omega) | exact Und.oslG (by omega) | exact Und.rowI (nC_data _) | exact Und.rowI (iC_data _) | exact (fun p hp => .data (vC_data _ p hp)) | (refine ⟨?_, ?_⟩)
           simp only [maskL, setsL, putsO, putO, mB, List.set_cons_zero, List.set_cons_succ, seval]
           obtain ⟨F5, r2⟩ := y3
           obtain ⟨hF5, hr2⟩ := hy3
           dsimp only at hF5 hr2
           dsimp only
           refine AWp_seqK fun Y3 y3 => ?_
           refine NAny_start 16 [18, 15, 8] rfl mixed ?_
           dsimp only
           refine NAny_takeK 0 rfl (by kernel_rfl) (by kernel_rfl) (by kernel_rfl) (fun _ _ h => h) (by kernel_rfl) (fun d h => by cases h; rfl) (by kernel_rfl) (G' := [167, 18, 15, 8]) (by kernel_rfl) fun Q0 q0 => ?_
           simp only [↓bO, go_sem, seval, nHead, isE, isSE, isV, hdw, hka, hq1, gM ha, hwa, intC, Int.natCast_add, hkb, gM hb, hwb]
           refine q0 _ ?_
           clear q0 Q0
           refine NAny_takeK 2 rfl (by kernel_rfl) (by kernel_rfl) (by kernel_rfl) (fun _ _ h => h) (by kernel_rfl) (fun d h => by cases h; rfl) (by kernel_rfl) (G' := [169, 167, 18, 15, 8]) (by kernel_rfl) fun Q0 q0 => ?_
           simp only [↓bO, go_sem, seval, nHead, isE, isSE, isV, hdw, hka, hq1, gM ha, hwa, intC, Int.natCast_add, hkb, gM hb, hwb]
           refine q0 _ ?_
           clear q0 Q0
           refine NAny_takeK 5 rfl (by kernel_rfl) (by kernel_rfl) (by kernel_rfl) (fun _ _ h => h) (by kernel_rfl) (fun d h => by cases h; rfl) (by kernel_rfl) (G' := [169, 167, 18, 15, 8]) (by kernel_rfl) fun Q0 q0 => ?_
           simp only [↓bO, go_sem, seval, nHead, isE, isSE, isV, hdw, hka, hq1, gM ha, hwa, intC, Int.natCast_add, hkb, gM hb, hwb]
           refine q0 _ ?_
           clear q0 Q0
           refine NAny_takeK 6 rfl (by kernel_rfl) (by kernel_rfl) (by kernel_rfl) (fun _ _ h => h) (by kernel_rfl) (fun d h => by cases h; rfl) (by kernel_rfl) (G' := [173, 169, 167, 18, 15, 8]) (by kernel_rfl) fun Q0 q0 => ?_
           simp only [↓bO, go_sem, seval, nHead, isE, isSE, isV, hdw, hka, hq1, gM ha, hwa, intC, Int.natCast_add, hkb, gM hb, hwb]
           refine q0 _ ?_
           clear q0 Q0
           refine NAny_takeK 7 rfl (by kernel_rfl) (by kernel_rfl) (by kernel_rfl) (fun _ _ h => h) (by kernel_rfl) (fun d h => by cases h; rfl) (by kernel_rfl) (G' := [173, 169, 167, 18, 15, 8]) (by kernel_rfl) fun Q0 q0 => ?_
           simp only [↓bO, go_sem, seval, nHead, isE, isSE, isV, hdw, hka, hq1, gM ha, hwa, intC, Int.natCast_add, hkb, gM hb, hwb]
           refine q0 _ ?_
           clear q0 Q0
           refine NAny_takeK 8 rfl (by kernel_rfl) (by kernel_rfl) (by kernel_rfl) (fun _ _ h => h) (by kernel_rfl) (fun d h => by cases h; rfl) (by kernel_rfl) (G' := [175, 173, 169, 167, 18, 15, 8]) (by kernel_rfl) fun Q0 q0 => ?_
           simp only [↓bO, go_sem, seval, nHead, isE, isSE, isV, hdw, hka, hq1, gM ha, hwa, intC, Int.natCast_add, hkb, gM hb, hwb]
           refine q0 _ ?_
           clear q0 Q0
           refine NAny_takeK 9 rfl (by kernel_rfl) (by kernel_rfl) (by kernel_rfl) (fun _ _ h => h) (by kernel_rfl) (fun d h => by cases h; rfl) (by kernel_rfl) (G' := [176, 175, 173, 169, 167, 18, 15, 8]) (by kernel_rfl) fun Q0 q0 => ?_
           simp only [↓bO, go_sem, seval, nHead, isE, isSE, isV, hdw, hka, hq1, gM ha, hwa, intC, Int.natCast_add, hkb, gM hb, hwb]
           refine q0 _ ?_
           clear q0 Q0
           refine NAny_takeK 10 rfl (by kernel_rfl) (by kernel_rfl) (by kernel_rfl) (fun _ _ h => h) (by kernel_rfl) (fun d h => by cases h; rfl) (by kernel_rfl) (G' := [177, 176, 175, 173, 169, 167, 18, 15, 8]) (by kernel_rfl) fun Q0 q0 => ?_
           simp only [↓bO, go_sem, seval, nHead, isE, isSE, isV, hdw, hka, hq1, gM ha, hwa, intC, Int.natCast_add, hkb, gM hb, hwb]
           refine q0 _ ?_
           clear q0 Q0
           refine NAny_takeK 11 rfl (by kernel_rfl) (by kernel_rfl) (by kernel_rfl) (fun _ _ h => h) (by kernel_rfl) (fun d h => by cases h; rfl) (by kernel_rfl) (G' := [177, 176, 175, 173, 169, 167, 18, 15, 8]) (by kernel_rfl) fun Q0 q0 => ?_
           simp only [↓bO, go_sem, seval, nHead, isE, isSE, isV, hdw, hka, hq1, gM ha, hwa, intC, Int.natCast_add, hkb, gM hb, hwb]
           refine q0 _ ?_
           clear q0 Q0
           refine NAny_takeK 12 rfl (by kernel_rfl) (by kernel_rfl) (by kernel_rfl) (fun _ _ h => h) (by kernel_rfl) (fun d h => by cases h; rfl) (by kernel_rfl) (G' := [179, 177, 176, 175, 173, 169, 167, 18, 15, 8]) (by kernel_rfl) fun Q0 q0 => ?_
           simp only [↓bO, go_sem, seval, nHead, isE, isSE, isV, hdw, hka, hq1, gM ha, hwa, intC, Int.natCast_add, hkb, gM hb, hwb]
           refine q0 _ ?_
           clear q0 Q0
           refine NAny_takeK 13 rfl (by kernel_rfl) (by kernel_rfl) (by kernel_rfl) (fun _ _ h => h) (by kernel_rfl) (fun d h => by cases h; rfl) (by kernel_rfl) (G' := [180, 179, 177, 176, 175, 173, 169, 167, 18, 15, 8]) (by kernel_rfl) fun Q0 q0 => ?_
           simp only [↓bO, go_sem, seval, nHead, isE, isSE, isV, hdw, hka, hq1, gM ha, hwa, intC, Int.natCast_add, hkb, gM hb, hwb]
           refine q0 _ ?_
           clear q0 Q0
           refine NAny_all1 (i := 1) (by kernel_rfl) rfl (fun d h => by cases h; rfl) ?_
           refine aAt_op rfl rfl fun Q0 q0 => ?_
           simp only [↓bO, go_sem, seval, hdw, hka, hq1, gM ha, hwa, intC, Int.natCast_add, hkb, gM hb, hwb]
           refine CCalls.atP (PId_c { S with F := F5 } (r2 : Int)) (i0 := 3) (i1 := 2) (i2 := 7) (i3 := 1) (i4 := 0) (i5 := 4) (i6 := 5) (i7 := 6) (by exact ⟨.agg ⟨.ptr rfl, .v _, trivial⟩, trivial⟩) (fun _ => by exact .v _) (by decide) (by simp) ⟨rfl, rfl, rfl, rfl, rfl, rfl, rfl, rfl, trivial⟩ (fun Z6 u6 hZ6 => ?_)
           try dsimp only at hZ6
           simp only [cObsAt, List.zip_cons_cons, List.zip_nil_left, List.zip_nil_right, putsO, putO, Nat.reduceEqDiff, ↓reduceIte]
           obtain rfl : { S with F := F5 } = Z6 := hZ6.symm
           try simp only [bS, bA]
           refine q0 _ ⟨⟨rfl, rfl, rfl, rfl, rfl, rfl, rfl, rfl, rfl, rfl, rfl, trivial⟩, ?_⟩
           clear q0 Q0
           refine NAny_all1 (i := 3) (by kernel_rfl) rfl (fun d h => by cases h; rfl) ?_
           refine aAt_op rfl rfl fun Q0 q0 => ?_
           simp only [↓bO, go_sem, seval, hdw, hka, hq1, gM ha, hwa, intC, Int.natCast_add, hkb, gM hb, hwb]
           refine CCalls.atP (PId_c { S with F := F5 } (r1 : Int)) (i0 := 3) (i1 := 2) (i2 := 7) (i3 := 1) (i4 := 0) (i5 := 4) (i6 := 5) (i7 := 6) (by exact ⟨.agg ⟨.ptr rfl, .v _, trivial⟩, trivial⟩) (fun _ => by exact .v _) (by decide) (by simp) ⟨rfl, rfl, rfl, rfl, rfl, rfl, rfl, rfl, trivial⟩ (fun Z6 u6 hZ6 => ?_)
           try dsimp only at hZ6
           simp only [cObsAt, List.zip_cons_cons, List.zip_nil_left, List.zip_nil_right, putsO, putO, Nat.reduceEqDiff, ↓reduceIte]
           obtain rfl : { S with F := F5 } = Z6 := hZ6.symm
           try simp only [bS, bA]
           refine q0 _ ⟨⟨rfl, rfl, rfl, rfl, rfl, rfl, rfl, rfl, rfl, rfl, rfl, trivial⟩, ?_⟩
           clear q0 Q0
           refine NAny_all2 (i := 4) (j := 14) (by kernel_rfl) rfl rfl (fun d h => by cases h; rfl) (fun d h => by cases h; rfl) ?_ ?_
           ·
            refine aAt_op rfl rfl fun Q0 q0 => ?_
            simp only [↓bO, go_sem, seval, hdw, hka, hq1, gM ha, hwa, intC, Int.natCast_add, hkb, gM hb, hwb]
            refine q0 _ ⟨⟨rfl, rfl, rfl, rfl, rfl, rfl, rfl, rfl, rfl, rfl, rfl, trivial⟩, ?_⟩
            clear q0 Q0
            refine NAny_all1 (i := 14) (by kernel_rfl) rfl (fun d h => by cases h; rfl) ?_
            refine aAt_op rfl rfl fun Q0 q0 => ?_
            simp only [↓bO, go_sem, seval, hdw, hka, hq1, gM ha, hwa, intC, Int.natCast_add, hkb, gM hb, hwb]
            refine CCalls.at (CSame_c { S with F := F5 } hF5.inv (hPS.fsame hF5).h.2.vin a b) (.cons (.v _) (.cons (.v _) .nil)) (fun _ => .v _) (i0 := 3) (i1 := 2) (i2 := 7) (i3 := 1) (i4 := 0) (i5 := 4) (i6 := 5) (i7 := 6) (by decide) (by simp) ⟨rfl, rfl, rfl, rfl, rfl, rfl, rfl, rfl, trivial⟩ (fun Z7 b7 hX7 => ?_)
            try dsimp only at hX7
            simp only [cObsAt, List.zip_cons_cons, List.zip_nil_left, List.zip_nil_right, putsO, putO, Nat.reduceEqDiff, ↓reduceIte]
            obtain ⟨F7, rfl⟩ : ∃ F7, Z7 = { S with F := F7 } := ⟨Z7.F, hX7.2.1⟩
            dsimp only at hX7
            have hF7 : FSame S.F F7 := hF5.trans hX7.1
            have hsame : b7 = ((r2 : Int) == (r1 : Int)) := id_same hPS hF5 hva hvb hr1 hr2 hX7.2.2
            try simp only [bS, bA]
            refine q0 _ ⟨⟨rfl, rfl, rfl, rfl, rfl, rfl, rfl, rfl, rfl, rfl, rfl, trivial⟩, ?_⟩
            clear q0 Q0
            refine NAny_all1 (i := 15) (by kernel_rfl) rfl (fun d h => by cases h; rfl) ?_
            refine aAt_op rfl rfl fun Q0 q0 => ?_
            simp only [↓bO, go_sem, seval, hdw, hka, hq1, gM ha, hwa, intC, Int.natCast_add, hkb, gM hb, hwb]
            refine q0 _ ⟨⟨rfl, rfl, rfl, rfl, rfl, rfl, rfl, rfl, rfl, rfl, rfl, trivial⟩, ?_⟩
            clear q0 Q0
            refine NAny_done (by kernel_rfl) ?_
            simp only [thenQ, blockQ, noGotoQ]
            refine y3 _ ?_
            try clear y3 Y3
            refine AWp_cond rfl (fun hb182 => ?_) (fun hb182 => ?_)
            ·
             exact absurd hb182 (by rw [hsame]; simp)
            ·
             refine AWp_skip ?_
             try simp only [thenQ, blockQ, noGotoQ]
             refine y2 _ ?_
             try clear y2 Y2
             refine AWp_region ?_
             iterate 2 (refine aops_chunk 1 fun Q0 q0 => ?_; simp only [↓bO, go_sem, seval, hdw, hka, hq1, gM ha, hwa, intC, Int.natCast_add, hkb, gM hb, hwb]; refine q0 _ ?_; clear q0 Q0; simp only [go_sem])
             simp only [↓bO, go_sem, seval, hdw, hka, hq1, gM ha, hwa, intC, Int.natCast_add, hkb, gM hb, hwb]
             refine ⟨(F7, z.2 + 1), ⟨hF7, by simp only; omega⟩, (by simp only; omega), ?_⟩
             simp only [maskL, setsL, putsO, putO, mB, List.set_cons_zero, List.set_cons_succ, seval, Int.natCast_add, Int.natCast_one, Int.cast_ofNat_Int]
             refine Weak.sub ?_ ⟨rfl, rfl, rfl, rfl, rfl, rfl, rfl, rfl, trivial⟩ (by first | omega | (simp only; omega)) (by first | omega | (simp only; omega)) ?_ ?_
             · simp only [go_sem, Le.refl, Le.any]
             · repeat' first | exact trivial | exact .any _ | exact .ptr (by omega) | exact .own (by omega) | exact .v _ _ | exact Und.data (EqT.dataSl _) | exact Und.data (dataInts _) | exact Und.data (RNode.dataSl _) | exact Und.data (.eptr (.cons (RNode.dataSl _) (.cons (dataInts _) .nil))) | exact Und.eptr ⟨.ptr (by omega), .v _ _, trivial⟩ | exact Und.parts (by omega) _ | (refine ⟨?_, ?_⟩)
             · repeat' first | exact trivial | (with_reducible omega) | exact .any _ | exact .ptr (by omega) | exact .own (by omega) | exact .v _ _ | exact .map (by omega) | exact Und.oslG (by omega) | exact Und.rowI (nC_data _) | exact Und.rowI (iC_data _) | exact (fun p hp => .data (vC_data _ p hp)) | (refine ⟨?_, ?_⟩)
           ·
            refine aAt_op rfl rfl fun Q0 q0 => ?_
            simp only [↓bO, go_sem, seval, hdw, hka, hq1, gM ha, hwa, intC, Int.natCast_add, hkb, gM hb, hwb]
            refine CCalls.at (CSame_c { S with F := F5 } hF5.inv (hPS.fsame hF5).h.2.vin a b) (.cons (.v _) (.cons (.v _) .nil)) (fun _ => .v _) (i0 := 3) (i1 := 2) (i2 := 7) (i3 := 1) (i4 := 0) (i5 := 4) (i6 := 5) (i7 := 6) (by decide) (by simp) ⟨rfl, rfl, rfl, rfl, rfl, rfl, rfl, rfl, trivial⟩ (fun Z7 b7 hX7 => ?_)
            try dsimp only at hX7
            simp only [cObsAt, List.zip_cons_cons, List.zip_nil_left, List.zip_nil_right, putsO, putO, Nat.reduceEqDiff, ↓reduceIte]
            obtain ⟨F7, rfl⟩ : ∃ F7, Z7 = { S with F := F7 } := ⟨Z7.F, hX7.2.1⟩
            dsimp only at hX7
            have hF7 : FSame S.F F7 := hF5.trans hX7.1
            have hsame : b7 = ((r2 : Int) == (r1 : Int)) := id_same hPS hF5 hva hvb hr1 hr2 hX7.2.2
            try simp only [bS, bA]
            refine q0 _ ⟨⟨rfl, rfl, rfl, rfl, rfl, rfl, rfl, rfl, rfl, rfl, rfl, trivial⟩, ?_⟩
            clear q0 Q0
            refine NAny_all1 (i := 4) (by kernel_rfl) rfl (fun d h => by cases h; rfl) ?_
            refine aAt_op rfl rfl fun Q0 q0 => ?_
            simp only [↓bO, go_sem, seval, hdw, hka, hq1, gM ha, hwa, intC, Int.natCast_add, hkb, gM hb, hwb]
            refine q0 _ ⟨⟨rfl, rfl, rfl, rfl, rfl, rfl, rfl, rfl, rfl, rfl, rfl, trivial⟩, ?_⟩
            clear q0 Q0
            refine NAny_all1 (i := 15) (by kernel_rfl) rfl (fun d h => by cases h; rfl) ?_
            refine aAt_op rfl rfl fun Q0 q0 => ?_
            simp only [↓bO, go_sem, seval, hdw, hka, hq1, gM ha, hwa, intC, Int.natCast_add, hkb, gM hb, hwb]
            refine q0 _ ⟨⟨rfl, rfl, rfl, rfl, rfl, rfl, rfl, rfl, rfl, rfl, rfl, trivial⟩, ?_⟩
            clear q0 Q0
            refine NAny_done (by kernel_rfl) ?_
            simp only [thenQ, blockQ, noGotoQ]
            refine y3 _ ?_
            try clear y3 Y3
            refine AWp_cond rfl (fun hb182 => ?_) (fun hb182 => ?_)
            ·
             exact absurd hb182 (by rw [hsame]; simp)
            ·
             refine AWp_skip ?_
             try simp only [thenQ, blockQ, noGotoQ]
             refine y2 _ ?_
             try clear y2 Y2
             refine AWp_region ?_
             iterate 2 (refine aops_chunk 1 fun Q0 q0 => ?_; simp only [↓bO, go_sem, seval, hdw, hka, hq1, gM ha, hwa, intC, Int.natCast_add, hkb, gM hb, hwb]; refine q0 _ ?_; clear q0 Q0; simp only [go_sem])
             simp only [↓bO, go_sem, seval, hdw, hka, hq1, gM ha, hwa, intC, Int.natCast_add, hkb, gM hb, hwb]
             refine ⟨(F7, z.2 + 1), ⟨hF7, by simp only; omega⟩, (by simp only; omega), ?_⟩
             simp only [maskL, setsL, putsO, putO, mB, List.set_cons_zero, List.set_cons_succ, seval, Int.natCast_add, Int.natCast_one, Int.cast_ofNat_Int]
             refine Weak.sub ?_ ⟨rfl, rfl, rfl, rfl, rfl, rfl, rfl, rfl, trivial⟩ (by first | omega | (simp only; omega)) (by first | omega | (simp only; omega)) ?_ ?_
             · simp only [go_sem, Le.refl, Le.any]
             · repeat' first | exact trivial | exact .any _ | exact .ptr (by omega) | exact .own (by omega) | exact .v _ _ | exact Und.data (EqT.dataSl _) | exact Und.data (dataInts _) | exact Und.data (RNode.dataSl _) | exact Und.data (.eptr (.cons (RNode.dataSl _) (.cons (dataInts _) .nil))) | exact Und.eptr ⟨.ptr (by omega), .v _ _, trivial⟩ | exact Und.parts (by omega) _ | (refine ⟨?_, ?_⟩)
             · repeat' first | exact trivial | (with_reducible omega) | exact .any _ | exact .ptr (by omega) | exact .own (by omega) | exact .v _ _ | exact .map (by omega) | exact Und.oslG (by omega) | exact Und.rowI (nC_data _) | exact Und.rowI (iC_data _) | exact (fun p hp => .data (vC_data _ p hp)) | (refine ⟨?_, ?_⟩)
          ·
           refine AWp_exit ?_
           simp only [thenQ, blockQ, noGotoQ, bA, Nat.reduceEqDiff, ↓reduceIte]
           refine y1 _ ?_
           try clear y1 Y1
           refine AWp_region ?_
           iterate 2 (refine aops_chunk 1 fun Q0 q0 => ?_; simp only [↓bO, go_sem, seval, hdw, hka, hq1, gM ha, hwa, intC, Int.natCast_add]; refine q0 _ ?_; clear q0 Q0; simp only [go_sem])
           simp only [↓bO, go_sem, seval, hdw, hka, hq1, gM ha, hwa, intC, Int.natCast_add]
           refine ⟨(z.1, x.2 + 1), ⟨hz.1, by simp only; omega⟩, (by simp only; omega), ?_⟩
           simp only [maskL, setsL, putsO, putO, mB, List.set_cons_zero, List.set_cons_succ, seval, Int.natCast_add, Int.natCast_one, Int.cast_ofNat_Int]
           refine Weak.sub ?_ ⟨rfl, rfl, rfl, rfl, rfl, rfl, rfl, rfl, trivial⟩ (by first | omega | (simp only; omega)) (by first | omega | (simp only; omega)) ?_ ?_
           · simp only [go_sem, Le.refl, Le.any]
           · repeat' first | exact trivial | exact .any _ | exact .ptr (by omega) | exact .own (by omega) | exact .v _ _ | exact Und.data (EqT.dataSl _) | exact Und.data (dataInts _) | exact Und.data (RNode.dataSl _) | exact Und.data (.eptr (.cons (RNode.dataSl _) (.cons (dataInts _) .nil))) | exact Und.eptr ⟨.ptr (by omega), .v _ _, trivial⟩ | exact Und.parts (by omega) _ | (refine ⟨?_, ?_⟩)
           · repeat' first | exact trivial | (with_reducible omega) | exact .any _ | exact .ptr (by omega) | exact .own (by omega) | exact .v _ _ | exact .map (by omega) | exact Und.oslG (by omega) | exact Und.rowI (nC_data _) | exact Und.rowI (iC_data _) | exact (fun p hp => .data (vC_data _ p hp)) | (refine ⟨?_, ?_⟩)
     ·
      refine AWp_exit ?_
      simp only [thenQ, blockQ, noGotoQ, bA, Nat.reduceEqDiff, ↓reduceIte]
      refine y0 _ ?_
      try clear y0 Y0
      refine AWp_seqK fun Y0 y0 => ?_
      refine AWp_region ?_
      simp only [↓bO, go_sem, seval, hdw]
      refine y0 _ ?_
      try clear y0 Y0
      refine AWp_seqK fun Y0 y0 => ?_
      refine AWp_region ?_
      refine aops_chunk 1 fun Q0 q0 => ?_
      simp only [↓bO, go_sem, seval, hdw]
      refine q0 _ ?_
      clear q0 Q0
      simp only [go_sem]
      refine aops_chunk 1 fun Q0 q0 => ?_
      simp only [↓bO, go_sem, seval, hdw]
      refine APure.call (PartIdNil) ?_
      try simp only [bS, bA, thenQ, blockQ, noGotoQ]
      iterate 2 (refine q0 _ ?_; clear q0 Q0; simp only [go_sem]; refine aops_chunk 1 fun Q0 q0 => ?_; simp only [↓bO, go_sem, seval, hdw])
      refine q0 _ ?_
      clear q0 Q0
      simp only [go_sem]
      refine aops_case 186 rfl (fun hc186 => ?_) (fun hc186 => ?_)
      ·
       simp only [List.set_cons_zero, List.set_cons_succ]
       refine aops_chunk 1 fun Q0 q0 => ?_
       simp only [↓bO, go_sem, seval, hdw]
       refine q0 _ ?_
       clear q0 Q0
       simp only [go_sem]
       refine aops_chunk 1 fun Q0 q0 => ?_
       simp only [↓bO, go_sem, seval, hdw]
       refine APure.call (PartKindNil) ?_
       try simp only [bS, bA, thenQ, blockQ, noGotoQ]
       iterate 3 (refine q0 _ ?_; clear q0 Q0; simp only [go_sem]; refine aops_chunk 1 fun Q0 q0 => ?_; simp only [↓bO, go_sem, seval, hdw])
       refine q0 _ ?_
       clear q0 Q0
       simp only [go_sem]
       refine aops_case 191 rfl (fun hc191 => ?_) (fun hc191 => ?_)
       ·
        simp only [List.set_cons_zero, List.set_cons_succ]
        refine aops_chunk 1 fun Q0 q0 => ?_
        simp only [↓bO, go_sem, seval, hdw]
        refine q0 _ ?_
        clear q0 Q0
        simp only [go_sem]
        refine aops_chunk 1 fun Q0 q0 => ?_
        simp only [↓bO, go_sem, seval, hdw]
        refine APure.call (PartVarNil) ?_
        try simp only [bS, bA, thenQ, blockQ, noGotoQ]
        iterate 3 (refine q0 _ ?_; clear q0 Q0; simp only [go_sem]; refine aops_chunk 1 fun Q0 q0 => ?_; simp only [↓bO, go_sem, seval, hdw])
        refine q0 _ ?_
        clear q0 Q0
        simp only [go_sem]
        refine aops_case 196 rfl (fun hc196 => ?_) (fun hc196 => ?_)
        ·
         simp only [List.set_cons_zero, List.set_cons_succ]
         refine aops_chunk 1 fun Q0 q0 => ?_
         simp only [↓bO, go_sem, seval, hdw]
         refine q0 _ ?_
         clear q0 Q0
         simp only [go_sem]
         refine aops_chunk 1 fun Q0 q0 => ?_
         simp only [↓bO, go_sem, seval, hdw]
         refine APure.call (PartPartsNil) ?_
         try simp only [bS, bA, thenQ, blockQ, noGotoQ]
         iterate 4 (refine q0 _ ?_; clear q0 Q0; simp only [go_sem]; refine aops_chunk 1 fun Q0 q0 => ?_; simp only [↓bO, go_sem, seval, hdw])
         refine q0 _ ?_
         clear q0 Q0
         simp only [go_sem]
         refine aops_case 202 rfl (fun hc202 => ?_) (fun hc202 => ?_)
         ·
          simp only [List.set_cons_zero, List.set_cons_succ]
          refine aops_chunk 1 fun Q0 q0 => ?_
          simp only [↓bO, go_sem, seval, hdw]
          refine APure.call (awake12_pure) ?_
          try simp only [bS, bA, thenQ, blockQ, noGotoQ]
          refine q0 _ ?_
          clear q0 Q0
          simp only [go_sem]
          refine aops_chunk 1 fun Q0 q0 => ?_
          simp only [↓bO, go_sem, seval, hdw]
          refine q0 _ ?_
          clear q0 Q0
          simp only [go_sem]
          simp only [↓bO, go_sem, seval, hdw]
          refine y0 _ ?_
          try clear y0 Y0
          refine AWp_ret ?_
          try simp only [thenQ, blockQ, noGotoQ, retQ, aRes, tupOf, bS, bA]
          exact Le.refl _
         ·
          simp only [List.set_cons_zero, List.set_cons_succ]
          exact absurd hc202 (by simp)
        ·
         simp only [List.set_cons_zero, List.set_cons_succ]
         exact absurd hc196 (by simp)
       ·
        simp only [List.set_cons_zero, List.set_cons_succ]
        exact absurd hc191 (by simp)
      ·
       simp only [List.set_cons_zero, List.set_cons_succ]
       exact absurd hc186 (by simp)
end Go.Proofs.Ytjjjckjebkmnjaa
namespace Go.Proofs.Ytjjjckjebkmnjaa.unifyParts
open Go Go.ChangeShapes Go.WideShapes Go.ChangeAt Go.RowKit
set_option linter.unusedVariables false
theorem own : ownKnob Try.prog.godebug = none := by kernel_rfl
theorem laidOut : laidOutB Try.prog = true := by kernel_rfl
theorem cT : Try.prog.cellsOf 30 = 3 := by kernel_rfl
theorem cI : Try.prog.cellsOf 3 = 1 := by kernel_rfl
theorem cS : Try.prog.cellsOf 28 = 1 := by kernel_rfl
section
variable {H : Type} {enc : TypeId × Value → H} {w : World} {base : Nat} {spare : Nat → Bool} {held : Bool}
theorem rdT (fuel : Nat) : Rd enc Try.prog w base spare held Env.none fuel 30 Ty.cells :=
  rd_ty Try.underlying30 cT rfl rfl rfl rfl rfl rfl Try.underlying3 cI Try.underlying28 cS fuel
theorem rdS (fuel : Nat) : Rd enc Try.prog w base spare held Env.none fuel 28 (fun xs : List Ty => [.sl 3 (xs.map Ty.cells)]) :=
  rd_slice Try.underlying28 cT (by omega) Ty.cells_len fun n _ => rdT n
theorem cP : Try.prog.cellsOf 32 = 2 := by kernel_rfl
theorem cE : Try.prog.cellsOf 34 = 8 := by kernel_rfl
theorem rdE (fuel : Nat) : Rd enc Try.prog w base spare held Env.none fuel 34 EqT.cells :=
  rd_eq Try.underlying34 cE cT cP rfl rfl rfl rfl rfl rfl rdT (fun n => rd_two Try.underlying32 cP rfl rfl rfl rfl Try.underlying3 cI n) fuel
theorem rdEs (fuel : Nat) : Rd enc Try.prog w base spare held Env.none fuel 22 (fun xs : List EqT => [.sl 8 (xs.map EqT.cells)]) :=
  rd_slice Try.underlying22 cE (by omega) (fun _ => rfl) fun n _ => rdE n
end
set_option maxRecDepth 100000 in
theorem lifted (os : Go.Os) (started : os.Started) (H : Type) (enc : TypeId × Value → H) :
    ReturnsInHanded {} Try.checked os 4 .any (Rows.unifyPartsSpec.pre6 enc Try.prog Try.f4 Rows.unifyPartsRow.domain false) (Rows.unifyPartsSpec.post enc Try.prog Try.f4 false true false false) := by
  refine returnsInHanded_of_change (C := Try.checked) own started (by kernel_rfl) Try.func4
    (ChangeSpec.witness6 (enc := enc) (C := Try.checked) false ⟨#[], #[.slice none 0 0, .int .u8 0], []⟩ 8 (by kernel_rfl) (by kernel_rfl) (by kernel_rfl) (by kernel_rfl)) ?_
  intro W base args ds gs before hval0 hW hcnd _
  have hval : ∀ (j : Nat) t v, Try.f4.params[j]? = some t → args[j]? = some v → Value.okWide Try.prog W .any base t v := hval0
  have hW' := hW
  obtain ⟨p, q, hA0, hV, rfl, hfz, hnd⟩ := hW
  have hA : DataW.TrodAll enc Try.prog W 0 (fun _ => true) true Try.f4.params.toList args.toList ds p := hA0
  rw [Try.params4] at hA hval
  obtain ⟨v0, vs0, d0, ds0, p0, q0, hargs, rfl, rfl, h0, r0⟩ := trodAll_cons hA
  obtain ⟨v1, vs1, d1, ds1, p1, q1, rfl, rfl, rfl, h1, r1⟩ := trodAll_cons r0
  obtain ⟨rfl, rfl, rfl⟩ := trodAll_nil r1
  obtain rfl : args = #[v0, v1] := by cases args; simp_all
  obtain ⟨rfl, rfl⟩ := trodVars_none hV
  have k0 := h0
  have lt0 : ∀ x ∈ p0, x.block < W.heap.size := by obtain ⟨m, hm⟩ := k0; exact DataW.trod_lt m _ _ _ hm
  obtain ⟨b0, len0, cap0, rfl⟩ := okWide_slice Try.underlying22 (hval 0 22 v0 rfl rfl)
  obtain ⟨P0, hr0⟩ : ∃ P : List EqT, Rp Env.none (fun _ _ => False) W (.sl 8 (P.map EqT.cells)) (.slice b0 len0 cap0) := by
    obtain ⟨m, hm⟩ := h0
    obtain ⟨P, _, hr⟩ := rdEs m _ _ hm
    exact ⟨P, hr 0 _ _ rfl rfl⟩
  obtain ⟨a1, rfl, rfl, rfl, w1⟩ := open_int Try.underlying5 (hval 1 5 v1 rfl rfl) h1
  have wn1 : 0 ≤ a1 ∧ a1 < 256 := by
    have h9 := w1
    have e1 : IntKind.u8.min = 0 := rfl
    have e2 : IntKind.u8.max = 255 := rfl
    simp only [Lit.wf, Bool.and_eq_true, decide_eq_true_eq, e1, e2] at h9
    omega
  obtain ⟨n1, rfl⟩ : ∃ n : Nat, a1 = (n : Int) := ⟨a1.toNat, by omega⟩
  clear hA0 hval0
  refine ((UnifyParts_pure P0 n1 (by omega)).calls (w := W) rfl ?_).mono fun e W' ⟨he, bel⟩ => ?_
  · intro i c u hc hu
    match i with
    | 0 => simp at hc hu; subst hc; subst hu; exact hr0
    | 1 => simp at hc hu; subst hc; subst hu; exact .v _
    | i + 2 => simp at hc
  subst he
  exact ⟨_, rfl, _, _, _, [], _, [], hW', trodAll_mk1 (shut_bool Try.underlying4 _), (trodAll_cons_mk (Below.trod laidOut (by kernel_rfl) (of_decide_eq_true (by kernel_rfl)) k0 bel lt0) (trodAll_cons_mk (shut_int Try.underlying5 w1) trodAll_mk0)), rfl, bel.frame _, fun h => by cases h⟩
theorem over : Rows.unifyPartsRow.holds Try.pinned (OpenSpec.ofChange Rows.unifyPartsSpec) :=
  OpenClaim.holds_of_wide 4 Try.f4 rfl rfl rfl rfl rfl rfl rfl ⟨rfl, rfl, rfl, rfl, rfl⟩ rfl rfl rfl rfl rfl (by kernel_rfl) Try.func4 (by kernel_rfl)
    (of_decide_eq_true (by kernel_rfl)) (by unfold Func.isWrapper; first | (rw [if_pos (by decide +kernel)]; kernel_rfl) | (rw [if_neg (by decide +kernel)]; exact ⟨rfl, rfl⟩))
    (fun os started H enc _ => lifted os started H enc)
end Go.Proofs.Ytjjjckjebkmnjaa.unifyParts
namespace Go.Proofs.Ytjjjckjebkmnjaa
theorem unifyParts_proved : Rows.UnifyPartsSaid := unifyParts.over
#print axioms unifyParts_proved
end Go.Proofs.Ytjjjckjebkmnjaa
