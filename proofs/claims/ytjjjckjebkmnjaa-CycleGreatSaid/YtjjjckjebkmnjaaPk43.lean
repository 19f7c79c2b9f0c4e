/- Texts of the abstract walk, of the contracts and of the plain laws, packed (part 43 of 43): CyN CyP Cgreat. Conditions: none. -/
import Derived.Test.YtjjjckjebkmnjaaPk42
import Derived.Test.YtjjjckjebkmnjaaRows
import Derived.OpenShut
import Derived.ChangeOld
import Derived.Below
namespace Go.Proofs.Ytjjjckjebkmnjaa
open Go Go.RowKit
set_option maxRecDepth 100000
set_option maxHeartbeats 4000000
set_option linter.unusedSimpArgs false
set_option linter.unusedVariables false
attribute [local irreducible] aops dRun
theorem ACalls.freshE {P : Program} {f : Nat} {args : List AV} {σ : Type} {C : σ → Prop} {R R' : σ → AV} {os1 os1' : σ → Os} {k : Nat} {os' : Os} {nx' : Nat} {Q' : AV → Os → Nat → Prop}
    (h : ACalls P f args [] 0 fun r os n => (∃ s, C s ∧ r = R s ∧ os = os1 s) ∧ n = k) (hd : DataL args) (hR : ∀ s, RenV (fun i => nx' + i) (R s) (R' s)) (hnd : ∀ s, ((os1 s).map Prod.fst).Nodup) (hos : ∀ s, OsRen (fun i => nx' + i) (os1 s) (os1' s)) (hq : ∀ s, C s → Q' (R' s) (os1' s ++ os') (nx' + k)) : ACalls P f args os' nx' Q' := by
  have same : ∀ (l : List AV), DataL l → RenL (fun i => nx' + i) l l := by
    intro l hl
    induction l with
    | nil => trivial
    | cons x l ih => exact ⟨.data (hl x (by simp)), ih fun y hy => hl y (by simp [hy])⟩
  refine h.frame (fun i => nx' + i) (fun i j e => by simpa using e) (fun i hi => by omega) (fun i _ => by simp) (same args hd) (fun i ob hg => by cases hg) ?_
  rintro r os1a n1 ⟨⟨s, hs, rfl, rfl⟩, rfl⟩
  refine ⟨R' s, os1' s ++ os', hR s, hq s hs, fun id ob2 hg => ?_⟩
  rw [getO_append] at hg
  split at hg
  · rename_i x hx
    cases hg
    obtain ⟨i, x, e1, _, e3, e4⟩ := (hos s).get id _ hx
    exact .inl ⟨i, x, e1, getO_of_mem (hnd s) e4, e3⟩
  · exact .inr ⟨hg, fun ⟨i, _, hi⟩ => by omega⟩
theorem Le.slC {sz : Nat} {xs ys : List (List AV)} (hl : ys.length = xs.length) (hy : ∀ y ∈ ys, y.length = sz) (hf : LeL xs.flatten ys.flatten) : Le (.sl sz xs) (.sl sz ys) := fun E A w u hr =>
  hr.slMap hl (fun _ => hy) hf.length.symm fun j c d u hc hd hk => by
    obtain ⟨x, hx, hle⟩ := hf.get j d hd
    rw [hc] at hx; cases hx
    exact hle _ _ _ _ hk
def coOs (b : Nat) (S : CS) : Os := [((b + 7), .tok 128 4 S.G.N.length), ((b + 6), .row 3 1 (S.W.map intC)), ((b + 5), .row 3 1 (S.F.rank.map intC)), ((b + 4), .row 3 1 (S.F.up.map nC)), ((b + 3), .cells 89 [.v (.int .i64 S.steps), .ptr (b + 2) 0, .ptr (b + 0) 0, .own (b + 6) S.W.length, .v (.bool S.clash)]), ((b + 2), .cells 118 [.osl (b + 7) 4 (S.G.N.map GNode.cells), .map (b + 1)]), ((b + 1), .map (S.G.V.map vC)), ((b + 0), .cells 115 [.own (b + 4) S.F.up.length, .own (b + 5) S.F.rank.length, .v (.int .i64 S.F.sets), .v (.int .i64 S.F.steps)])]
theorem coOs_ren (b : Nat) (S : CS) : OsRen (fun i => b + i) (coOs 0 S) (coOs b S) :=
  ⟨rfl, .tok, rfl, .row (iC_data _), rfl, .row (iC_data _), rfl, .row (nC_data _), rfl, .cells ⟨.v _, .ptr rfl, .ptr rfl, .own rfl, .v _, trivial⟩, rfl, .cells ⟨.osl rfl (GNode.dataRows S.G.N), .map rfl, trivial⟩, rfl, .map (vC_data S.G.V), rfl, .cells ⟨.own rfl, .own rfl, .v _, .v _, trivial⟩, trivial⟩
theorem coOs_und (S : CS) : UndOs 8 (coOs 0 S) :=
  ⟨by omega, trivial, by omega, Und.rowI (iC_data _), by omega, Und.rowI (iC_data _), by omega, Und.rowI (nC_data _), by omega, ⟨.v _ _, .ptr (by omega), .ptr (by omega), .own (by omega), .v _ _, trivial⟩, by omega, ⟨Und.oslG (by omega), .map (by omega), trivial⟩, by omega, fun p hp => .data (vC_data _ p hp), by omega, ⟨.own (by omega), .own (by omega), .v _ _, .v _ _, trivial⟩, trivial⟩
theorem coCalls {f : Nat} {args : List AV} {C : CS → Prop} (h : ACalls Try.prog f args [] 0 fun r os n => (∃ S, C S ∧ r = .ptr 3 0 ∧ os = coOs 0 S) ∧ n = 8) (hd : DataL args) {os' : Os} {nx' : Nat} {Q' : AV → Os → Nat → Prop}
    (hq : ∀ S, C S → Q' (.ptr (nx' + 3) 0) (coOs nx' S ++ os') (nx' + 8)) : ACalls Try.prog f args os' nx' Q' :=
  h.freshE (R := fun _ => .ptr 3 0) (R' := fun _ => .ptr (nx' + 3) 0) (os1 := fun S => coOs 0 S) (os1' := fun S => coOs nx' S) hd (fun _ => .ptr rfl) (fun S => by simp [coOs]) (coOs_ren nx') hq
theorem NewC_c : ACalls Try.prog 11 [] [] 0 fun r os n => (∃ S, S = CS0 ∧ r = .ptr 3 0 ∧ os = coOs 0 S) ∧ n = 8 := by
  refine ACalls.cleanN (n := 8) (C := fun r os => ∃ S, S = CS0 ∧ r = .ptr 3 0 ∧ os = coOs 0 S) (by omega) ?_
  refine ACalls_intro Try.func11 (by kernel_rfl) rfl (by rw [Try.ntmps11]; simp) (fun hm => ?_)
  simp only [Try.ntmps11, Try.results11, List.length_cons, List.length_nil, Nat.reduceAdd, Nat.reduceSub, List.replicate_succ, List.replicate_zero, List.cons_append, List.nil_append]
  refine AWp_seqK fun Y0 y0 => ?_
  refine AWp_region ?_
  simp only [↓bO, go_sem, seval]
  refine y0 _ ?_
  try clear y0 Y0
  refine AWp_seqK fun Y0 y0 => ?_
  refine AWp_region ?_
  refine aops_chunk 1 fun Q0 q0 => ?_
  simp only [↓bO, go_sem, seval]
  refine UNew_calls.mono ?_
  rintro r os' nx' ⟨⟨rfl, rfl⟩, rfl⟩
  try simp only [bS, bA, thenQ, blockQ, noGotoQ]
  refine q0 _ ?_
  clear q0 Q0
  simp only [go_sem]
  refine aops_chunk 4 fun Q0 q0 => ?_
  simp only [↓bO, go_sem, seval]
  refine q0 _ ?_
  clear q0 Q0
  simp only [go_sem]
  simp only [↓bO, go_sem, seval]
  refine y0 _ ?_
  try clear y0 Y0
  refine AWp_seqK fun Y0 y0 => ?_
  refine AWp_region ?_
  refine aops_chunk 1 fun Q0 q0 => ?_
  simp only [↓bO, go_sem, seval]
  refine ACalls.fresh (R' := .ptr 2 0) (os1' := [(2, .cells 118 [.v (.slice none 0 0), .map 1]), (1, .map [])]) New_calls .nil (.ptr rfl) (by decide) ⟨rfl, .cells ⟨.v _, .map rfl, trivial⟩, rfl, .map (by intro p hp; cases hp), trivial⟩ ?_
  simp only [List.cons_append, List.nil_append]
  try simp only [bS, bA, thenQ, blockQ, noGotoQ]
  refine q0 _ ?_
  clear q0 Q0
  simp only [go_sem]
  simp only [↓bO, go_sem, seval]
  refine y0 _ ?_
  try clear y0 Y0
  refine AWp_weak (Weak.rowCell 3 1 0 (id := 0) rfl rfl) ?_
  simp only [putO, Nat.reduceEqDiff, ↓reduceIte, List.set_cons_zero, List.set_cons_succ, List.cons_append, List.nil_append]
  refine AWp_weak (Weak.rowCell 3 1 1 (id := 0) rfl rfl) ?_
  simp only [putO, Nat.reduceEqDiff, ↓reduceIte, List.set_cons_zero, List.set_cons_succ, List.cons_append, List.nil_append]
  refine AWp_weak (Weak.rowCell 3 1 3 (id := 3) rfl rfl) ?_
  simp only [putO, Nat.reduceEqDiff, ↓reduceIte, List.set_cons_zero, List.set_cons_succ, List.cons_append, List.nil_append]
  refine AWp_weak (Weak.tokCell 128 4 (id := 2) (t := 118) [.osl 7 4 ([].map GNode.cells), .map 1] rfl ⟨.inr ⟨rfl, rfl⟩, .inl (.refl _), trivial⟩) ?_
  simp only [putO, Nat.reduceEqDiff, ↓reduceIte, List.set_cons_zero, List.set_cons_succ, List.cons_append, List.nil_append]
  refine AWp_ret ?_
  try simp only [thenQ, blockQ, noGotoQ, retQ, aRes, tupOf, bS, bA]
  refine ⟨_, coOs 0 CS0, ⟨CS0, rfl, rfl, rfl⟩, .ptr (by omega), coOs_und _, Le.refl _, ⟨0, rfl, rfl⟩, by omega⟩
def aw13 : Ty × Ty := (.mk 1 0 [], arrowL [.mk 1 0 [], .mk 2 0 []])
def awM13 : List RNode := [⟨.mk 1 0 [], []⟩, ⟨.mk 2 0 [], []⟩, ⟨.mk 4 0 [.mk 1 0 [], .mk 2 0 []], [0, 1]⟩]
theorem aw13_eqF : eqF [aw13] = (awM13, [(0, 2)]) := by
  simp [eqF, eqStep, aw13, arrowL, Ty.radd, Ty.raddL, idxI, RNode.isVar, Ty.k, Ty.n, awM13, List.findIdx_cons, List.findIdx_nil]
theorem aw13_okc : clsOk awM13 [(0, 2)] (fun i => if i = 2 then 0 else i) = true := by rfl
theorem aw13_no : ¬ Clashes [aw13] := by unfold Clashes; rw [aw13_eqF]; exact clsOk_noClash aw13_okc
theorem aw13_oke : OkE [aw13] := fun e he => by
  simp at he; subst he
  exact ⟨by decide, by decide, by decide, by decide⟩
theorem aw13_loop {M : List RNode} {c : List Int} {S : CS} (h : PSt [aw13] M c S) : Pls (kids S) (rootF S 0) (rootF S 0) := by
  have hm := h.m
  rw [aw13_eqF] at hm
  subst hm
  have h0 : Rt S.F.up 0 (rootF S 0) := h.rt (by decide)
  have h2 : Rt S.F.up 2 (rootF S 0) := (rt_iff_cl h.h h0).2 (.base (by rw [aw13_eqF]; simp [nat2]))
  have hk := h.kids_node (k := 2) (y := ⟨.mk 4 0 [.mk 1 0 [], .mk 2 0 []], [0, 1]⟩) rfl (by decide) h2
  exact ⟨rootF S 0, by rw [hk]; simp, .refl _⟩
theorem aw13_step {s : CS × Int} (hs : EqR CS0 (nat2 (eqF []).2) (eqF []).1 (.mk 1 0 []) (arrowL [.mk 1 0 [], .mk 2 0 []]) s) : s.2 = 0 ∧ CSt [aw13] s.1 ∧ s.1.clash = false ∧ s.1.G.N.length ≤ 10 := by
  have h1 : CSt ([] ++ [aw13]) s.1 := CSt.none.step (e := aw13) (aw13_oke aw13 (by simp)) hs
  have hl := h1.len
  rcases Holds.none.step (e := aw13) hs with ⟨h, _⟩ | ⟨_, h, _⟩ | ⟨_, _, h, h2, h3⟩
  · exact absurd h (by decide)
  · exact absurd h aw13_no
  · exact ⟨h, h1, h2.1, Nat.le_trans h3 (by decide)⟩
theorem aw13_fin {S : CS} {b : Bool} {n : Int} (h : CSt [aw13] S) (hc : S.clash = false) (hl : S.G.N.length ≤ 10) (hr : CountR S (b, n)) : b = false := by
  obtain ⟨c, hp⟩ := h.pst hc (by omega)
  cases b with
  | false => rfl
  | true =>
    rcases hr with ⟨h1, _⟩ | ⟨_, _, h3, _⟩
    · rw [hc] at h1; cases h1
    · exact absurd (aw13_loop hp) (hp.no_loop (h3 rfl) _)
theorem aw13_cyc {S : CS} (h : CSt [aw13] S) (hc : S.clash = false) (hl : S.G.N.length ≤ 10) : CycL S = [0] := by
  obtain ⟨c, hp⟩ := h.pst hc (by omega)
  have hv : varsI (eqF [aw13]).1 = [0] := by
    rw [aw13_eqF, varsI_eq]
    simp [vns, awM13, Ty.k, Ty.n, sortI]
  have h0 : idxI (RNode.isVar 0) (eqF [aw13]).1 = ((0 : Nat) : Int) := by
    rw [aw13_eqF]; simp [idxI, RNode.isVar, Ty.k, Ty.n, awM13, List.findIdx_cons]
  rw [hp.cyc, hv]
  have hlt : 0 < (eqF [aw13]).1.length := by rw [aw13_eqF]; decide
  have : lpB (eqF [aw13]).1 c (idxI (RNode.isVar 0) (eqF [aw13]).1).toNat = true := by
    rw [h0, Int.toNat_natCast, lpB_iff, hp.lp_iff hlt]
    exact ⟨_, .refl _, aw13_loop hp⟩
  simp [wantC, this]
theorem awA_le : Le (.sl 3 [(Ty.mk 1 0 []).cells, [.v (.int .i64 2), .v (.int .i64 0), .v (.slice none 0 0)]]) (.sl 3 ([Ty.mk 1 0 [], Ty.mk 2 0 []].map Ty.cells)) :=
  Le.slC rfl (by intro y hy; simp at hy; rcases hy with rfl | rfl <;> simp [Ty.cells_len]) ⟨.refl _, .refl _, .refl _, .refl _, .refl _, Le.slNil 3, trivial⟩
theorem count_zero {b : Bool} {n : Int} (hr : CountR CS0 (b, n)) : b = true := by
  rcases hr with ⟨h1, _⟩ | ⟨_, h2, _⟩
  · cases h1
  · cases b with
    | true => rfl
    | false =>
      obtain ⟨y, hy, _⟩ := h2 rfl
      simp [CS0] at hy
theorem awake13_pure : APure Try.prog 40 [] (.v (.bool true)) := by
  refine APure.mkL (.nil) (.v _) ?_
  refine ACalls_intro Try.func40 (by kernel_rfl) rfl (by rw [Try.ntmps40]; simp) (fun hm => ?_)
  simp only [Try.ntmps40, Try.results40, List.length_cons, List.length_nil, Nat.reduceAdd, Nat.reduceSub, List.replicate_succ, List.replicate_zero, List.cons_append, List.nil_append]
  refine AWp_seqK fun Y0 y0 => ?_
  refine AWp_region ?_
  simp only [↓bO, go_sem, seval]
  refine y0 _ ?_
  try clear y0 Y0
  refine AWp_seqK fun Y0 y0 => ?_
  refine AWp_region ?_
  refine aops_chunk 1 fun Q0 q0 => ?_
  simp only [↓bO, go_sem, seval]
  refine coCalls NewC_c .nil (fun S0 hS0 => ?_)
  subst hS0
  simp only [coOs, List.cons_append, List.nil_append, Nat.reduceAdd]
  try simp only [bS, bA, thenQ, blockQ, noGotoQ]
  refine q0 _ ?_
  clear q0 Q0
  simp only [go_sem]
  simp only [↓bO, go_sem, seval]
  refine y0 _ ?_
  try clear y0 Y0
  refine AWp_seqK fun Y0 y0 => ?_
  refine AWp_region ?_
  refine aops_chunk 1 fun Q0 q0 => ?_
  simp only [↓bO, go_sem, seval]
  iterate 2 (refine q0 _ ?_; clear q0 Q0; simp only [go_sem]; refine aops_chunk 1 fun Q0 q0 => ?_; simp only [↓bO, go_sem, seval]; refine APure.call (TVar_pure 0) ?_; (try simp only [bS, bA, thenQ, blockQ, noGotoQ]))
  refine q0 _ ?_
  clear q0 Q0
  simp only [go_sem]
  refine aops_chunk 1 fun Q0 q0 => ?_
  simp only [↓bO, go_sem, seval]
  refine q0 _ ?_
  clear q0 Q0
  simp only [go_sem]
  refine aops_chunk 1 fun Q0 q0 => ?_
  simp only [↓bO, go_sem, seval, ↓bs2_1, ↓bs2_2, ↓bs2_3, ↓bs2_4, ↓bs2_5, ↓bs2_6, ↓bs2_7, ↓bs2_8, ↓bs2_9, ↓bs2_10, ↓bs2_11, ↓bs2_12]
  refine q0 _ ?_
  clear q0 Q0
  simp only [go_sem]
  refine aops_chunk 1 fun Q0 q0 => ?_
  simp only [↓bO, go_sem, seval]
  refine ACalls.args (args' := [.sl 3 ([.mk 1 0 [], .mk 2 0 []].map Ty.cells)]) ⟨awA_le, trivial⟩ ?_
  refine APure.call (Arrow_pure 2 [.mk 1 0 [], .mk 2 0 []] rfl (by decide)) ?_
  try simp only [bS, bA, thenQ, blockQ, noGotoQ]
  refine q0 _ ?_
  clear q0 Q0
  simp only [go_sem]
  refine aops_chunk 1 fun Q0 q0 => ?_
  simp only [↓bO, go_sem, seval]
  refine CCalls.at (Equate_c CS0 (nat2 (eqF []).2) (eqF []).1 (.mk 1 0 []) (arrowL [.mk 1 0 [], .mk 2 0 []]) (fun _ => Holds.none.2) (by decide) (by decide) (by decide)) (.cons (Ty.dataAgg _) (.cons (Ty.dataAgg _) .nil)) (fun _ => .v _) (i0 := 3) (i1 := 2) (i2 := 7) (i3 := 1) (i4 := 0) (i5 := 4) (i6 := 5) (i7 := 6) (by decide) (by simp) ⟨rfl, rfl, rfl, rfl, rfl, rfl, rfl, rfl, trivial⟩ (fun S1 r1 hE1 => ?_)
  try dsimp only at hE1
  simp only [cObsAt, List.zip_cons_cons, List.zip_nil_left, List.zip_nil_right, putsO, putO, Nat.reduceEqDiff, ↓reduceIte]
  obtain ⟨he1, h13, hq13, hl13⟩ := aw13_step hE1
  obtain rfl : r1 = 0 := he1
  dsimp only at h13 hq13 hl13
  try simp only [bS, bA, thenQ, blockQ, noGotoQ]
  refine q0 _ ?_
  clear q0 Q0
  simp only [go_sem]
  simp only [↓bO, go_sem, seval]
  refine y0 _ ?_
  try clear y0 Y0
  refine AWp_seqK fun Y0 y0 => ?_
  refine AWp_region ?_
  iterate 3 (refine aops_chunk 1 fun Q0 q0 => ?_; simp only [↓bO, go_sem, seval]; refine q0 _ ?_; clear q0 Q0; simp only [go_sem])
  refine aops_case 13 rfl (fun hc13 => ?_) (fun hc13 => ?_)
  ·
   simp only [List.set_cons_zero, List.set_cons_succ]
   refine aops_chunk 1 fun Q0 q0 => ?_
   simp only [↓bO, go_sem, seval]
   refine q0 _ ?_
   clear q0 Q0
   simp only [go_sem]
   refine aops_chunk 1 fun Q0 q0 => ?_
   simp only [↓bO, go_sem, seval]
   refine CCalls.at (Finite_c S1 (h13.cyG (by omega))) (.nil) (fun _ => .v _) (i0 := 3) (i1 := 2) (i2 := 7) (i3 := 1) (i4 := 0) (i5 := 4) (i6 := 5) (i7 := 6) (by decide) (by simp) ⟨rfl, rfl, rfl, rfl, rfl, rfl, rfl, rfl, trivial⟩ (fun Z2 b2 hX2 => ?_)
   try dsimp only at hX2
   simp only [cObsAt, List.zip_cons_cons, List.zip_nil_left, List.zip_nil_right, putsO, putO, Nat.reduceEqDiff, ↓reduceIte]
   obtain ⟨F2, rfl⟩ : ∃ F, Z2 = { S1 with F := F } := ⟨Z2.F, hX2.1⟩
   dsimp only at hX2
   obtain ⟨_, hF2, n2, hR2⟩ := hX2
   obtain rfl := aw13_fin h13 hq13 hl13 hR2
   have h13b := h13.fsame (S1 := { S1 with F := F2 }) (hF2 hq13) rfl
   try simp only [bS, bA, thenQ, blockQ, noGotoQ]
   iterate 3 (refine q0 _ ?_; clear q0 Q0; simp only [go_sem]; refine aops_chunk 1 fun Q0 q0 => ?_; simp only [↓bO, go_sem, seval])
   refine q0 _ ?_
   clear q0 Q0
   simp only [go_sem]
   refine aops_case 18 rfl (fun hc18 => ?_) (fun hc18 => ?_)
   ·
    simp only [List.set_cons_zero, List.set_cons_succ]
    refine aops_chunk 1 fun Q0 q0 => ?_
    simp only [↓bO, go_sem, seval]
    refine q0 _ ?_
    clear q0 Q0
    simp only [go_sem]
    refine aops_chunk 1 fun Q0 q0 => ?_
    simp only [↓bO, go_sem, seval]
    refine CCalls.at (Cyclic_c { S1 with F := F2 } (h13b.cyG (by dsimp only; omega))) (.nil) (fun _ => dataInts _) (i0 := 3) (i1 := 2) (i2 := 7) (i3 := 1) (i4 := 0) (i5 := 4) (i6 := 5) (i7 := 6) (by decide) (by simp) ⟨rfl, rfl, rfl, rfl, rfl, rfl, rfl, rfl, trivial⟩ (fun Z3 L3 hX3 => ?_)
    try dsimp only at hX3
    simp only [cObsAt, List.zip_cons_cons, List.zip_nil_left, List.zip_nil_right, putsO, putO, Nat.reduceEqDiff, ↓reduceIte]
    obtain ⟨F3, rfl⟩ : ∃ F, Z3 = { S1 with F := F } := ⟨Z3.F, hX3.1⟩
    have hL3 := hX3.2.2
    rw [aw13_cyc h13b hq13 hl13] at hL3
    subst hL3
    try simp only [bS, bA, thenQ, blockQ, noGotoQ]
    refine q0 _ ?_
    clear q0 Q0
    simp only [go_sem]
    refine aops_chunk 1 fun Q0 q0 => ?_
    simp only [↓bO, go_sem, seval, ↓bs1_1, ↓bs1_2, ↓bs1_3, ↓bs1_4, ↓bs1_5, ↓bs1_6, ↓bs1_7, ↓bs1_8, ↓bs1_9, ↓bs1_10, ↓bs1_11, ↓bs1_12]
    refine q0 _ ?_
    clear q0 Q0
    simp only [go_sem]
    refine aops_chunk 1 fun Q0 q0 => ?_
    simp only [↓bO, go_sem, seval]
    refine APure.call (Ints_pure [0] [0]) ?_
    try simp only [bS, bA, thenQ, blockQ, noGotoQ]
    iterate 2 (refine q0 _ ?_; clear q0 Q0; simp only [go_sem]; refine aops_chunk 1 fun Q0 q0 => ?_; simp only [↓bO, go_sem, seval])
    refine q0 _ ?_
    clear q0 Q0
    simp only [go_sem]
    refine aops_case 24 rfl (fun hc24 => ?_) (fun hc24 => ?_)
    ·
     simp only [List.set_cons_zero, List.set_cons_succ]
     refine aops_chunk 1 fun Q0 q0 => ?_
     simp only [↓bO, go_sem, seval]
     refine coCalls NewC_c .nil (fun S0 hS0 => ?_)
     subst hS0
     simp only [coOs, List.cons_append, List.nil_append, Nat.reduceAdd]
     try simp only [bS, bA, thenQ, blockQ, noGotoQ]
     refine q0 _ ?_
     clear q0 Q0
     simp only [go_sem]
     refine aops_chunk 1 fun Q0 q0 => ?_
     simp only [↓bO, go_sem, seval]
     refine CCalls.at (Finite_c CS0 (fun _ => CyG.zero)) (.nil) (fun _ => .v _) (i0 := 11) (i1 := 10) (i2 := 15) (i3 := 9) (i4 := 8) (i5 := 12) (i6 := 13) (i7 := 14) (by decide) (by simp) ⟨rfl, rfl, rfl, rfl, rfl, rfl, rfl, rfl, trivial⟩ (fun Z4 b4 hX4 => ?_)
     try dsimp only at hX4
     simp only [cObsAt, List.zip_cons_cons, List.zip_nil_left, List.zip_nil_right, putsO, putO, Nat.reduceEqDiff, ↓reduceIte]
     obtain ⟨_, _, n4, hR4⟩ := hX4
     obtain rfl := count_zero hR4
     try simp only [bS, bA, thenQ, blockQ, noGotoQ]
     refine q0 _ ?_
     clear q0 Q0
     simp only [go_sem]
     refine aops_chunk 1 fun Q0 q0 => ?_
     simp only [↓bO, go_sem, seval]
     refine q0 _ ?_
     clear q0 Q0
     simp only [go_sem]
     simp only [↓bO, go_sem, seval]
     refine y0 _ ?_
     try clear y0 Y0
     refine AWp_ret ?_
     try simp only [thenQ, blockQ, noGotoQ, retQ, aRes, tupOf, bS, bA]
     exact Le.refl _
    ·
     simp only [List.set_cons_zero, List.set_cons_succ]
     exact absurd hc24 (by simp)
   ·
    simp only [List.set_cons_zero, List.set_cons_succ]
    exact absurd hc18 (by simp)
  ·
   simp only [List.set_cons_zero, List.set_cons_succ]
   exact absurd hc13 (by simp)
end Go.Proofs.Ytjjjckjebkmnjaa
namespace Go.Proofs.Ytjjjckjebkmnjaa
open Go Go.RowKit
set_option maxRecDepth 100000
set_option maxHeartbeats 4000000
set_option linter.unusedSimpArgs false
set_option linter.unusedVariables false
attribute [local irreducible] aops dRun
theorem CycleGreat_pure (n : Nat) (hn : n < 256) : APure Try.prog 7 [.v (.int .u8 (n : Int))] (.v (.bool true)) := by
  refine APure.mkL (.cons (.v _) .nil) (.v _) ?_
  refine ACalls_intro Try.func7 (by kernel_rfl) rfl (by rw [Try.ntmps7]; simp) (fun hm => ?_)
  simp only [Try.ntmps7, Try.results7, List.length_cons, List.length_nil, Nat.reduceAdd, Nat.reduceSub, List.replicate_succ, List.replicate_zero, List.cons_append, List.nil_append]
  obtain ⟨k, hk⟩ : ∃ k, k = n % 60 := ⟨_, rfl⟩
  have hk60 : k < 60 := by rw [hk]; exact Nat.mod_lt _ (by omega)
  have hkw : IntKind.u8.wrap (Int.tmod (n : Int) 60) = (k : Int) := by rw [show Int.tmod (n : Int) 60 = ((n % 60 : Nat) : Int) from rfl, hk]; exact wrap8 (by omega)
  have hkw2 : IntKind.i64.wrap (Int.tmod (n : Int) 60) = (k : Int) := by rw [show Int.tmod (n : Int) 60 = ((n % 60 : Nat) : Int) from rfl, hk]; exact wrap_in (by omega) (by omega)
  have hkw3 : IntKind.i64.wrap (k : Int) = (k : Int) := wrap_in (by omega) (by omega)
  have hkw4 : IntKind.i64.wrap ((k : Int) + 1) = (k : Int) + 1 := wrap_in (by omega) (by omega)
  have hv2 := vT_ok k (by omega)
  have hi2 := iT_ok
  refine AWp_seqK fun Y0 y0 => ?_
  refine AWp_region ?_
  simp only [↓bO, go_sem, seval, hkw, hkw2, hkw3, hkw4]
  refine y0 _ ?_
  try clear y0 Y0
  refine AWp_seqK fun Y0 y0 => ?_
  refine AWp_region ?_
  iterate 3 (refine aops_chunk 1 fun Q0 q0 => ?_; simp only [↓bO, go_sem, seval, hkw, hkw2, hkw3, hkw4]; refine q0 _ ?_; clear q0 Q0; simp only [go_sem])
  simp only [↓bO, go_sem, seval, hkw, hkw2, hkw3, hkw4]
  refine y0 _ ?_
  try clear y0 Y0
  refine AWp_seqK fun Y0 y0 => ?_
  refine AWp_region ?_
  refine aops_chunk 1 fun Q0 q0 => ?_
  simp only [↓bO, go_sem, seval, hkw, hkw2, hkw3, hkw4]
  refine coCalls NewC_c .nil (fun S0 hS0 => ?_)
  subst hS0
  simp only [coOs, List.cons_append, List.nil_append, Nat.reduceAdd]
  try simp only [bS, bA, thenQ, blockQ, noGotoQ]
  refine q0 _ ?_
  clear q0 Q0
  simp only [go_sem]
  simp only [↓bO, go_sem, seval, hkw, hkw2, hkw3, hkw4]
  refine y0 _ ?_
  try clear y0 Y0
  refine AWp_seqK fun Y0 y0 => ?_
  refine AWp_seqK fun Y1 y1 => ?_
  refine AWp_region ?_
  simp only [↓bO, go_sem, seval, hkw, hkw2, hkw3, hkw4]
  refine y1 _ ?_
  try clear y1 Y1
  refine AWp_block ?_
  refine AWp_loopM (σ := CS × Nat) (mB 79 56) (fun u => CSt (gE u.2) u.1 ∧ u.2 ≤ k) (fun u => [(5, .v (.int .i64 (u.2 : Int)))]) (fun u => [(7, .tok 128 4 u.1.G.N.length), (6, .row 3 1 (u.1.W.map intC)), (5, .row 3 1 (u.1.F.rank.map intC)), (4, .row 3 1 (u.1.F.up.map nC)), (3, .cells 89 [.v (.int .i64 u.1.steps), .ptr 2 0, .ptr 0 0, .own 6 u.1.W.length, .v (.bool u.1.clash)]), (2, .cells 118 [.osl 7 4 (u.1.G.N.map GNode.cells), .map 1]), (1, .map (u.1.G.V.map vC)), (0, .cells 115 [.own 4 u.1.F.up.length, .own 5 u.1.F.rank.length, .v (.int .i64 u.1.F.sets), .v (.int .i64 u.1.F.steps)])]) (fun u => k - u.2) (CS0, 0) (⟨CSt.none, by simp only; omega⟩) ?_ (fun u hu => ?_)
  ·
   simp only [maskL, setsL, putsO, putO, mB, List.set_cons_zero, List.set_cons_succ, seval, CS0, bL]
   exact Weak.mk (by simp only [go_sem, Le.refl, Le.any, Le.slNil, Int.natCast_add, Int.cast_ofNat_Int, Int.natCast_one]) (fun _ _ h => h) rfl rfl
  simp only [maskL, setsL, putsO, putO, mB, List.set_cons_zero, List.set_cons_succ, seval]
  refine AWp_seqK fun Y1 y1 => ?_
  refine AWp_seqK fun Y2 y2 => ?_
  refine AWp_region ?_
  iterate 2 (refine aops_chunk 1 fun Q0 q0 => ?_; simp only [↓bO, go_sem, seval, hkw, hkw2, hkw3, hkw4]; refine q0 _ ?_; clear q0 Q0; simp only [go_sem])
  simp only [↓bO, go_sem, seval, hkw, hkw2, hkw3, hkw4]
  refine y2 _ ?_
  try clear y2 Y2
  refine AWp_cond rfl (fun hb18 => ?_) (fun hb18 => ?_)
  ·
   have hku : u.2 < k := by simpa using hb18
   have hw : IntKind.i64.wrap ((u.2 : Int) + 1) = ((u.2 + 1 : Nat) : Int) := wrap_in (by omega) (by omega)
   have hl1 := hu.1.len
   have hs1 := sumP_gE u.2
   have hv1 := vT_ok u.2 (by omega)
   have hd1 := dT_ok u.2 (by omega)
   refine AWp_skip ?_
   try simp only [thenQ, blockQ, noGotoQ]
   refine y1 _ ?_
   try clear y1 Y1
   refine AWp_seqK fun Y1 y1 => ?_
   refine AWp_block ?_
   refine AWp_region ?_
   iterate 2 (refine aops_chunk 1 fun Q0 q0 => ?_; simp only [↓bO, go_sem, seval, hkw, hkw2, hkw3, hkw4, hku, hw]; refine q0 _ ?_; clear q0 Q0; simp only [go_sem])
   refine aops_chunk 1 fun Q0 q0 => ?_
   simp only [↓bO, go_sem, seval, hkw, hkw2, hkw3, hkw4, hku, hw]
   refine APure.call (TVar_pure (u.2 : Int)) ?_
   try simp only [bS, bA, thenQ, blockQ, noGotoQ]
   iterate 3 (refine q0 _ ?_; clear q0 Q0; simp only [go_sem]; refine aops_chunk 1 fun Q0 q0 => ?_; simp only [↓bO, go_sem, seval, hkw, hkw2, hkw3, hkw4, hku, hw])
   refine APure.call (TVar_pure ((u.2 + 1 : Nat) : Int)) ?_
   try simp only [bS, bA, thenQ, blockQ, noGotoQ]
   iterate 3 (refine q0 _ ?_; clear q0 Q0; simp only [go_sem]; refine aops_chunk 1 fun Q0 q0 => ?_; simp only [↓bO, go_sem, seval, hkw, hkw2, hkw3, hkw4, hku, hw])
   refine APure.call (TVar_pure ((u.2 + 1 : Nat) : Int)) ?_
   try simp only [bS, bA, thenQ, blockQ, noGotoQ]
   refine q0 _ ?_
   clear q0 Q0
   simp only [go_sem]
   refine aops_chunk 1 fun Q0 q0 => ?_
   simp only [↓bO, go_sem, seval, ↓bs2_1, ↓bs2_2, ↓bs2_3, ↓bs2_4, ↓bs2_5, ↓bs2_6, ↓bs2_7, ↓bs2_8, ↓bs2_9, ↓bs2_10, ↓bs2_11, ↓bs2_12, hkw, hkw2, hkw3, hkw4, hku, hw]
   refine q0 _ ?_
   clear q0 Q0
   simp only [go_sem]
   refine aops_chunk 1 fun Q0 q0 => ?_
   simp only [↓bO, go_sem, seval, hkw, hkw2, hkw3, hkw4, hku, hw]
   refine APure.call (Arrow_pure 2 [vT (u.2 + 1), vT (u.2 + 1)] rfl (by simp only [Ty.cntL, vT_cnt]; omega)) ?_
   try simp only [bS, bA, thenQ, blockQ, noGotoQ]
   refine q0 _ ?_
   clear q0 Q0
   simp only [go_sem]
   simp only [↓bO, go_sem, seval, hkw, hkw2, hkw3, hkw4, hku, hw]
   refine CCalls.at (Equate_c u.1 (nat2 (eqF (gE u.2)).2) (eqF (gE u.2)).1 (vT u.2) (dT u.2) (fun hc => (hu.1.good hc).1.2) (by omega) (by omega) (by omega)) (.cons (Ty.dataAgg _) (.cons (Ty.dataAgg _) .nil)) (fun _ => .v _) (i0 := 3) (i1 := 2) (i2 := 7) (i3 := 1) (i4 := 0) (i5 := 4) (i6 := 5) (i7 := 6) (by decide) (by simp) ⟨rfl, rfl, rfl, rfl, rfl, rfl, rfl, rfl, trivial⟩ (fun S1 r1 hE1 => ?_)
   try dsimp only at hE1
   simp only [cObsAt, List.zip_cons_cons, List.zip_nil_left, List.zip_nil_right, putsO, putO, Nat.reduceEqDiff, ↓reduceIte]
   have hc1 := hu.1.step (e := (vT u.2, dT u.2)) ⟨hv1.1, hd1.1, by dsimp only; omega, by dsimp only; omega⟩ hE1
   try simp only [bS, bA, thenQ, blockQ, noGotoQ]
   refine y1 _ ?_
   try clear y1 Y1
   refine AWp_region ?_
   iterate 2 (refine aops_chunk 1 fun Q0 q0 => ?_; simp only [↓bO, go_sem, seval, hkw, hkw2, hkw3, hkw4, hku, hw]; refine q0 _ ?_; clear q0 Q0; simp only [go_sem])
   simp only [↓bO, go_sem, seval, hkw, hkw2, hkw3, hkw4, hku, hw]
   refine ⟨(S1, u.2 + 1), ⟨by rw [gE_succ]; exact hc1, by simp only; omega⟩, (by simp only; omega), ?_⟩
   simp only [maskL, setsL, putsO, putO, mB, List.set_cons_zero, List.set_cons_succ, seval, Int.natCast_add, Int.natCast_one, Int.cast_ofNat_Int]
   refine Weak.sub ?_ ⟨rfl, rfl, rfl, rfl, rfl, rfl, rfl, rfl, trivial⟩ (by first | omega | (simp only; omega)) (by first | omega | (simp only; omega)) ?_ ?_
   · simp only [go_sem, Le.refl, Le.any]
   · repeat' first | exact trivial | exact .any _ | exact .ptr (by omega) | exact .own (by omega) | exact .v _ _ | exact Und.data (EqT.dataSl _) | exact Und.data (dataInts _) | (refine ⟨?_, ?_⟩)
   · repeat' first | exact trivial | (with_reducible omega) | exact .any _ | exact .ptr (by omega) | exact .own (by omega) | exact .v _ _ | exact .map (by omega) | exact Und.oslG (by omega) | exact Und.rowI (nC_data _) | exact Und.rowI (iC_data _) | exact (fun p hp => .data (vC_data _ p hp)) | (refine ⟨?_, ?_⟩)
  ·
   have hku : u.2 = k := by have h9 := hb18; simp at h9; have := hu.2; omega
   have hCS : CSt (gE k) u.1 := by (have h9 := hu.1; rw [hku] at h9; exact h9)
   have hl1 := hCS.len
   have hs1 := sumP_gE k
   refine AWp_exit ?_
   simp only [thenQ, blockQ, noGotoQ, bA, Nat.reduceEqDiff, ↓reduceIte]
   refine y0 _ ?_
   try clear y0 Y0
   refine AWp_seqK fun Y0 y0 => ?_
   refine AWp_region ?_
   iterate 2 (refine aops_chunk 1 fun Q0 q0 => ?_; simp only [↓bO, go_sem, seval, hkw, hkw2, hkw3, hkw4]; refine q0 _ ?_; clear q0 Q0; simp only [go_sem])
   refine aops_chunk 1 fun Q0 q0 => ?_
   simp only [↓bO, go_sem, seval, hkw, hkw2, hkw3, hkw4]
   refine APure.call (TVar_pure (k : Int)) ?_
   try simp only [bS, bA, thenQ, blockQ, noGotoQ]
   refine q0 _ ?_
   clear q0 Q0
   simp only [go_sem]
   refine aops_chunk 1 fun Q0 q0 => ?_
   simp only [↓bO, go_sem, seval, hkw, hkw2, hkw3, hkw4]
   refine q0 _ ?_
   clear q0 Q0
   simp only [go_sem]
   simp only [↓bO, go_sem, seval, hkw, hkw2, hkw3, hkw4]
   refine ACalls.args (args' := [.ptr 3 0, .agg (vT k).cells, .agg iT.cells]) ⟨.refl _, .refl _, Le.agg ⟨.refl _, .refl _, Le.slNil 3, trivial⟩, trivial⟩ ?_
   refine CCalls.at (Equate_c u.1 (nat2 (eqF (gE k)).2) (eqF (gE k)).1 (vT k) iT (fun hc => (hCS.good hc).1.2) (by omega) (by omega) (by omega)) (.cons (Ty.dataAgg _) (.cons (Ty.dataAgg _) .nil)) (fun _ => .v _) (i0 := 3) (i1 := 2) (i2 := 7) (i3 := 1) (i4 := 0) (i5 := 4) (i6 := 5) (i7 := 6) (by decide) (by simp) ⟨rfl, rfl, rfl, rfl, rfl, rfl, rfl, rfl, trivial⟩ (fun S r2 hE2 => ?_)
   try dsimp only at hE2
   simp only [cObsAt, List.zip_cons_cons, List.zip_nil_left, List.zip_nil_right, putsO, putO, Nat.reduceEqDiff, ↓reduceIte]
   have hC2 := hCS.step (e := (vT k, iT)) ⟨hv2.1, hi2.1, by dsimp only; omega, by dsimp only; omega⟩ hE2
   change CSt (gF k) S at hC2
   have hcS : S.clash = false := by (cases h9 : S.clash; rfl; exact absurd (hC2.clash_iff.1 h9) (gF_no k (by omega)))
   have hSl := hC2.len
   have hsum : sumP (gF k) = 4 * k + 2 := by (rw [gF, sumP_snoc, sumP_gE]; dsimp only; omega)
   obtain ⟨cc, hp⟩ := hC2.pst hcS (by omega)
   obtain ⟨i, hv0, hil, htl⟩ := gF_var0 k (by omega) hp
   try simp only [bS, bA, thenQ, blockQ, noGotoQ]
   refine y0 _ ?_
   try clear y0 Y0
   refine AWp_seqK fun Y0 y0 => ?_
   refine AWp_region ?_
   simp only [↓bO, go_sem, seval, hkw, hkw2, hkw3, hkw4]
   refine y0 _ ?_
   try clear y0 Y0
   refine AWp_seqK fun Y0 y0 => ?_
   refine AWp_seqK fun Y1 y1 => ?_
   refine AWp_region ?_
   simp only [↓bO, go_sem, seval, hkw, hkw2, hkw3, hkw4]
   refine y1 _ ?_
   try clear y1 Y1
   refine AWp_block ?_
   refine AWp_loopM (σ := Nat) (mB 79 216) (fun s => s ≤ k) (fun s => [(6, .v (.int .i64 (gSize s))), (7, .v (.int .i64 (s : Int)))]) (fun s => [(7, .tok 128 4 S.G.N.length), (6, .row 3 1 (S.W.map intC)), (5, .row 3 1 (S.F.rank.map intC)), (4, .row 3 1 (S.F.up.map nC)), (3, .cells 89 [.v (.int .i64 S.steps), .ptr 2 0, .ptr 0 0, .own 6 S.W.length, .v (.bool S.clash)]), (2, .cells 118 [.osl 7 4 (S.G.N.map GNode.cells), .map 1]), (1, .map (S.G.V.map vC)), (0, .cells 115 [.own 4 S.F.up.length, .own 5 S.F.rank.length, .v (.int .i64 S.F.sets), .v (.int .i64 S.F.steps)])]) (fun s => k - s) 0 (Nat.zero_le _) ?_ (fun s hs => ?_)
   ·
    simp only [maskL, setsL, putsO, putO, mB, List.set_cons_zero, List.set_cons_succ, seval, gSize]
    exact Weak.mk (by simp only [go_sem, Le.refl, Le.any, Le.slNil, Int.natCast_add, Int.cast_ofNat_Int, Int.natCast_one]) (fun _ _ h => h) rfl rfl
   simp only [maskL, setsL, putsO, putO, mB, List.set_cons_zero, List.set_cons_succ, seval]
   refine AWp_seqK fun Y1 y1 => ?_
   refine AWp_seqK fun Y2 y2 => ?_
   refine AWp_region ?_
   iterate 2 (refine aops_chunk 1 fun Q0 q0 => ?_; simp only [↓bO, go_sem, seval, hkw, hkw2, hkw3, hkw4]; refine q0 _ ?_; clear q0 Q0; simp only [go_sem])
   simp only [↓bO, go_sem, seval, hkw, hkw2, hkw3, hkw4]
   refine y2 _ ?_
   try clear y2 Y2
   refine AWp_cond rfl (fun hb40 => ?_) (fun hb40 => ?_)
   ·
    have hks : s < k := by simpa using hb40
    have hws : IntKind.i64.wrap ((s : Int) + 1) = ((s + 1 : Nat) : Int) := wrap_in (by omega) (by omega)
    have hgp := gSize_pos s
    simp only [most] at hgp
    have hw2 : IntKind.i64.wrap (2 * gSize s) = 2 * gSize s := wrap_in (by omega) (by omega)
    have hw3 : IntKind.i64.wrap (2 * gSize s + 1) = 2 * gSize s + 1 := wrap_in (by omega) (by omega)
    have hgs : gSize (s + 1) = min 1099511627776 (2 * gSize s + 1) := rfl
    refine AWp_skip ?_
    try simp only [thenQ, blockQ, noGotoQ]
    refine y1 _ ?_
    try clear y1 Y1
    refine AWp_seqK fun Y1 y1 => ?_
    refine AWp_block ?_
    refine AWp_region ?_
    iterate 4 (refine aops_chunk 1 fun Q0 q0 => ?_; simp only [↓bO, go_sem, seval, hkw, hkw2, hkw3, hkw4, hks, hws, hw2, hw3, hgs]; refine q0 _ ?_; clear q0 Q0; simp only [go_sem])
    simp only [↓bO, go_sem, seval, hkw, hkw2, hkw3, hkw4, hks, hws, hw2, hw3, hgs]
    refine y1 _ ?_
    try clear y1 Y1
    refine AWp_region ?_
    iterate 2 (refine aops_chunk 1 fun Q0 q0 => ?_; simp only [↓bO, go_sem, seval, hkw, hkw2, hkw3, hkw4, hks, hws, hw2, hw3, hgs]; refine q0 _ ?_; clear q0 Q0; simp only [go_sem])
    simp only [↓bO, go_sem, seval, hkw, hkw2, hkw3, hkw4, hks, hws, hw2, hw3, hgs]
    refine ⟨(s + 1), (by omega), (by omega), ?_⟩
    simp only [maskL, setsL, putsO, putO, mB, List.set_cons_zero, List.set_cons_succ, seval, hks, hws, hw2, hw3, hgs]
    exact Weak.mk (by simp only [go_sem, Le.refl, Le.any, Le.slNil, Int.natCast_add, Int.cast_ofNat_Int, Int.natCast_one]) (fun _ _ h => h) rfl rfl
   ·
    have hks : k = s := by have h9 := hb40; simp at h9; omega
    subst hks
    refine AWp_exit ?_
    simp only [thenQ, blockQ, noGotoQ, bA, Nat.reduceEqDiff, ↓reduceIte]
    refine y0 _ ?_
    try clear y0 Y0
    refine AWp_seqK fun Y0 y0 => ?_
    refine AWp_region ?_
    refine aops_chunk 1 fun Q0 q0 => ?_
    simp only [↓bO, go_sem, seval, hkw, hkw2, hkw3, hkw4]
    refine q0 _ ?_
    clear q0 Q0
    simp only [go_sem]
    refine aops_chunk 1 fun Q0 q0 => ?_
    simp only [↓bO, go_sem, seval, hkw, hkw2, hkw3, hkw4]
    refine CCalls.at (DepthK_c S hp.cyG hcS 0 i hv0) (.cons (.v _) .nil) (fun _ => .tup (.cons (.v _) (.cons (.v _) .nil))) (i0 := 3) (i1 := 2) (i2 := 7) (i3 := 1) (i4 := 0) (i5 := 4) (i6 := 5) (i7 := 6) (by decide) (by simp) ⟨rfl, rfl, rfl, rfl, rfl, rfl, rfl, rfl, trivial⟩ (fun Z3 k3 hX3 => ?_)
    try dsimp only at hX3
    simp only [cObsAt, List.zip_cons_cons, List.zip_nil_left, List.zip_nil_right, putsO, putO, Nat.reduceEqDiff, ↓reduceIte]
    obtain ⟨F3, rfl⟩ : ∃ F, Z3 = { S with F := F } := ⟨Z3.F, hX3.1⟩
    have hF3 := hX3.2.1
    have hk3 := gF_told k (by omega) hp htl Prod.fst hX3.2.2
    dsimp only at hk3 hF3
    subst hk3
    have hp3 := hp.fsame hF3
    have htl3 := htl
    obtain ⟨i3, hv3, hil3, htl3⟩ := gF_var0 k (by omega) hp3
    try simp only [bS, bA, thenQ, blockQ, noGotoQ]
    iterate 4 (refine q0 _ ?_; clear q0 Q0; simp only [go_sem]; refine aops_chunk 1 fun Q0 q0 => ?_; simp only [↓bO, go_sem, seval, hkw, hkw2, hkw3, hkw4])
    refine q0 _ ?_
    clear q0 Q0
    simp only [go_sem]
    simp only [↓bO, go_sem, seval, hkw, hkw2, hkw3, hkw4]
    refine y0 _ ?_
    try clear y0 Y0
    refine AWp_seqK fun Y0 y0 => ?_
    refine AWp_region ?_
    refine aops_chunk 1 fun Q0 q0 => ?_
    simp only [↓bO, go_sem, seval, hkw, hkw2, hkw3, hkw4]
    refine q0 _ ?_
    clear q0 Q0
    simp only [go_sem]
    refine aops_chunk 1 fun Q0 q0 => ?_
    simp only [↓bO, go_sem, seval, hkw, hkw2, hkw3, hkw4]
    refine CCalls.at (SizeK_c { S with F := F3 } hp3.cyG hcS 0 i3 hv3) (.cons (.v _) .nil) (fun _ => .tup (.cons (.v _) (.cons (.v _) .nil))) (i0 := 3) (i1 := 2) (i2 := 7) (i3 := 1) (i4 := 0) (i5 := 4) (i6 := 5) (i7 := 6) (by decide) (by simp) ⟨rfl, rfl, rfl, rfl, rfl, rfl, rfl, rfl, trivial⟩ (fun Z4 k4 hX4 => ?_)
    try dsimp only at hX4
    simp only [cObsAt, List.zip_cons_cons, List.zip_nil_left, List.zip_nil_right, putsO, putO, Nat.reduceEqDiff, ↓reduceIte]
    obtain ⟨F4, rfl⟩ : ∃ F, Z4 = { S with F := F } := ⟨Z4.F, hX4.1⟩
    have hF4 := hX4.2.1
    have hk4 := gF_told k (by omega) hp3 htl3 Prod.snd hX4.2.2
    dsimp only at hk4 hF4
    subst hk4
    have hp4 := hp3.fsame hF4
    try simp only [bS, bA, thenQ, blockQ, noGotoQ]
    iterate 4 (refine q0 _ ?_; clear q0 Q0; simp only [go_sem]; refine aops_chunk 1 fun Q0 q0 => ?_; simp only [↓bO, go_sem, seval, hkw, hkw2, hkw3, hkw4])
    refine q0 _ ?_
    clear q0 Q0
    simp only [go_sem]
    simp only [↓bO, go_sem, seval, hkw, hkw2, hkw3, hkw4]
    refine y0 _ ?_
    try clear y0 Y0
    refine AWp_seqK fun Y0 y0 => ?_
    refine AWp_region ?_
    iterate 2 (refine aops_chunk 1 fun Q0 q0 => ?_; simp only [↓bO, go_sem, seval, hkw, hkw2, hkw3, hkw4]; refine q0 _ ?_; clear q0 Q0; simp only [go_sem])
    refine aops_case 58 rfl (fun hc58 => ?_) (fun hc58 => ?_)
    ·
     simp only [List.set_cons_zero, List.set_cons_succ]
     iterate 3 (refine aops_chunk 1 fun Q0 q0 => ?_; simp only [↓bO, go_sem, seval, hkw, hkw2, hkw3, hkw4]; refine q0 _ ?_; clear q0 Q0; simp only [go_sem])
     refine aops_case 61 rfl (fun hc61 => ?_) (fun hc61 => ?_)
     ·
      simp only [List.set_cons_zero, List.set_cons_succ]
      iterate 6 (refine aops_chunk 1 fun Q0 q0 => ?_; simp only [↓bO, go_sem, seval, hkw, hkw2, hkw3, hkw4]; refine q0 _ ?_; clear q0 Q0; simp only [go_sem])
      refine aops_case 67 rfl (fun hc67 => ?_) (fun hc67 => ?_)
      ·
       simp only [List.set_cons_zero, List.set_cons_succ]
       iterate 5 (refine aops_chunk 1 fun Q0 q0 => ?_; simp only [↓bO, go_sem, seval, hkw, hkw2, hkw3, hkw4]; refine q0 _ ?_; clear q0 Q0; simp only [go_sem])
       refine aops_case 72 rfl (fun hc72 => ?_) (fun hc72 => ?_)
       ·
        simp only [List.set_cons_zero, List.set_cons_succ]
        refine aops_chunk 1 fun Q0 q0 => ?_
        simp only [↓bO, go_sem, seval, hkw, hkw2, hkw3, hkw4]
        refine q0 _ ?_
        clear q0 Q0
        simp only [go_sem]
        refine aops_chunk 1 fun Q0 q0 => ?_
        simp only [↓bO, go_sem, seval, hkw, hkw2, hkw3, hkw4]
        refine CCalls.at (Finite_c { S with F := F4 } (fun _ => hp4.cyG)) (.nil) (fun _ => .v _) (i0 := 3) (i1 := 2) (i2 := 7) (i3 := 1) (i4 := 0) (i5 := 4) (i6 := 5) (i7 := 6) (by decide) (by simp) ⟨rfl, rfl, rfl, rfl, rfl, rfl, rfl, rfl, trivial⟩ (fun Z5 b5 hX5 => ?_)
        try dsimp only at hX5
        simp only [cObsAt, List.zip_cons_cons, List.zip_nil_left, List.zip_nil_right, putsO, putO, Nat.reduceEqDiff, ↓reduceIte]
        obtain ⟨_, _, n5, hR5⟩ := hX5
        obtain rfl := gF_fin k (by omega) hp4 hR5
        try simp only [bS, bA, thenQ, blockQ, noGotoQ]
        iterate 2 (refine q0 _ ?_; clear q0 Q0; simp only [go_sem]; refine aops_chunk 1 fun Q0 q0 => ?_; simp only [↓bO, go_sem, seval, hkw, hkw2, hkw3, hkw4])
        refine q0 _ ?_
        clear q0 Q0
        simp only [go_sem]
        refine aops_case 76 rfl (fun hc76 => ?_) (fun hc76 => ?_)
        ·
         simp only [List.set_cons_zero, List.set_cons_succ]
         refine aops_chunk 1 fun Q0 q0 => ?_
         simp only [↓bO, go_sem, seval, hkw, hkw2, hkw3, hkw4]
         refine APure.call (awake13_pure) ?_
         try simp only [bS, bA, thenQ, blockQ, noGotoQ]
         refine q0 _ ?_
         clear q0 Q0
         simp only [go_sem]
         refine aops_chunk 1 fun Q0 q0 => ?_
         simp only [↓bO, go_sem, seval, hkw, hkw2, hkw3, hkw4]
         refine q0 _ ?_
         clear q0 Q0
         simp only [go_sem]
         simp only [↓bO, go_sem, seval, hkw, hkw2, hkw3, hkw4]
         refine y0 _ ?_
         try clear y0 Y0
         refine AWp_ret ?_
         try simp only [thenQ, blockQ, noGotoQ, retQ, aRes, tupOf, bS, bA]
         exact Le.refl _
        ·
         simp only [List.set_cons_zero, List.set_cons_succ]
         exact absurd hc76 (by simp)
       ·
        simp only [List.set_cons_zero, List.set_cons_succ]
        exact absurd hc72 (by simp)
      ·
       simp only [List.set_cons_zero, List.set_cons_succ]
       exact absurd hc67 (by simp)
     ·
      simp only [List.set_cons_zero, List.set_cons_succ]
      exact absurd hc61 (by simp)
    ·
     simp only [List.set_cons_zero, List.set_cons_succ]
     exact absurd hc58 (by simp)
end Go.Proofs.Ytjjjckjebkmnjaa
namespace Go.Proofs.Ytjjjckjebkmnjaa.cycleGreat
open Go Go.ChangeShapes Go.WideShapes Go.ChangeAt Go.RowKit
set_option linter.unusedVariables false
theorem own : ownKnob Try.prog.godebug = none := by kernel_rfl
theorem laidOut : laidOutB Try.prog = true := by kernel_rfl
theorem cT : Try.prog.cellsOf 30 = 3 := by kernel_rfl
theorem cI : Try.prog.cellsOf 3 = 1 := by kernel_rfl
theorem cS : Try.prog.cellsOf 28 = 1 := by kernel_rfl
section
variable {H : Type} {enc : TypeId × Value → H} {w : World} {base : Nat} {spare : Nat → Bool} {held : Bool}
theorem rdT (fuel : Nat) : Rd enc Try.prog w base spare held Env.none fuel 30 Ty.cells :=
  rd_ty Try.underlying30 cT rfl rfl rfl rfl rfl rfl Try.underlying3 cI Try.underlying28 cS fuel
theorem rdS (fuel : Nat) : Rd enc Try.prog w base spare held Env.none fuel 28 (fun xs : List Ty => [.sl 3 (xs.map Ty.cells)]) :=
  rd_slice Try.underlying28 cT (by omega) Ty.cells_len fun n _ => rdT n
end
set_option maxRecDepth 100000 in
theorem lifted (os : Go.Os) (started : os.Started) (H : Type) (enc : TypeId × Value → H) :
    ReturnsInHanded {} Try.checked os 7 .any (Rows.cycleGreatSpec.pre6 enc Try.prog Try.f7 Rows.cycleGreatRow.domain false) (Rows.cycleGreatSpec.post enc Try.prog Try.f7 false true false false) := by
  refine returnsInHanded_of_change (C := Try.checked) own started (by kernel_rfl) Try.func7
    (ChangeSpec.witness6 (enc := enc) (C := Try.checked) false ⟨#[], #[.int .u8 0], []⟩ 8 (by kernel_rfl) (by kernel_rfl) (by kernel_rfl) (by kernel_rfl)) ?_
  intro W base args ds gs before hval0 hW hcnd _
  have hval : ∀ (j : Nat) t v, Try.f7.params[j]? = some t → args[j]? = some v → Value.okWide Try.prog W .any base t v := hval0
  have hW' := hW
  obtain ⟨p, q, hA0, hV, rfl, hfz, hnd⟩ := hW
  have hA : DataW.TrodAll enc Try.prog W 0 (fun _ => true) true Try.f7.params.toList args.toList ds p := hA0
  rw [Try.params7] at hA hval
  obtain ⟨v0, vs0, d0, ds0, p0, q0, hargs, rfl, rfl, h0, r0⟩ := trodAll_cons hA
  obtain ⟨rfl, rfl, rfl⟩ := trodAll_nil r0
  obtain rfl : args = #[v0] := by cases args; simp_all
  obtain ⟨rfl, rfl⟩ := trodVars_none hV
  obtain ⟨a0, rfl, rfl, rfl, w0⟩ := open_int Try.underlying5 (hval 0 5 v0 rfl rfl) h0
  have wn0 : 0 ≤ a0 ∧ a0 < 256 := by
    have h9 := w0
    have e1 : IntKind.u8.min = 0 := rfl
    have e2 : IntKind.u8.max = 255 := rfl
    simp only [Lit.wf, Bool.and_eq_true, decide_eq_true_eq, e1, e2] at h9
    omega
  obtain ⟨n0, rfl⟩ : ∃ n : Nat, a0 = (n : Int) := ⟨a0.toNat, by omega⟩
  clear hA0 hval0
  refine ((CycleGreat_pure n0 (by omega)).calls (w := W) rfl ?_).mono fun e W' ⟨he, bel⟩ => ?_
  · intro i c u hc hu
    match i with
    | 0 => simp at hc hu; subst hc; subst hu; exact .v _
    | i + 1 => simp at hc
  subst he
  exact ⟨_, rfl, _, _, _, [], _, [], hW', trodAll_mk1 (shut_bool Try.underlying4 _), (trodAll_cons_mk (shut_int Try.underlying5 w0) trodAll_mk0), rfl, bel.frame _, fun h => by cases h⟩
theorem over : Rows.cycleGreatRow.holds Try.pinned (OpenSpec.ofChange Rows.cycleGreatSpec) :=
  OpenClaim.holds_of_wide 7 Try.f7 rfl rfl rfl rfl rfl rfl rfl ⟨rfl, rfl, rfl, rfl, rfl⟩ rfl rfl rfl rfl rfl (by kernel_rfl) Try.func7 (by kernel_rfl)
    (of_decide_eq_true (by kernel_rfl)) (by unfold Func.isWrapper; first | (rw [if_pos (by decide +kernel)]; kernel_rfl) | (rw [if_neg (by decide +kernel)]; exact ⟨rfl, rfl⟩))
    (fun os started H enc _ => lifted os started H enc)
end Go.Proofs.Ytjjjckjebkmnjaa.cycleGreat
namespace Go.Proofs.Ytjjjckjebkmnjaa
theorem cycleGreat_proved : Rows.CycleGreatSaid := cycleGreat.over
#print axioms cycleGreat_proved
end Go.Proofs.Ytjjjckjebkmnjaa
