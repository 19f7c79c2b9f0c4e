/- Texts of the abstract walk, of the contracts and of the plain laws, packed (part 48 of 48): Tq19 Ftlong FtB. Conditions: none. -/
import Derived.Test.YtmepcmphcghbeaaDoorPk47
import Derived.Test.YtmepcmphcghbeaaDoorCards
import Derived.Test.YtmepcmphcghbeaaDoorTie
import Derived.LaidSub
import Derived.Lib.LaidTab
import Derived.Stop.LaidErr
import Derived.OpenShut
import Derived.ChangeOld
import Derived.Below
import Derived.Lib.LaidU8
import Derived.Shelf.Vars
import Derived.LaidMore
import Derived.Lay
import Derived.SevenTiedAt
namespace Go.Proofs.YtmepcmphcghbeaaDoor
open Go Go.RowKit
set_option maxRecDepth 100000
set_option maxHeartbeats 4000000
set_option linter.unusedSimpArgs false
set_option linter.unnecessarySimpa false
set_option linter.unusedVariables false
attribute [local irreducible] aops dRun
theorem LeR_set {os : Os} {id n e sz : Nat} {xs : List (List AV)} (hg : getO os id = some (.row e sz xs)) (hn : n = xs.length) : ∀ (l : List AV) (k : Nat), l[k]? = some (.own id n) → LeR os [] l (l.set k (.sl sz xs))
  | [], k, h => by simp at h
  | x :: l, 0, h => by
    simp at h; subst h
    refine ⟨.inr ⟨id, n, e, sz, xs, rfl, rfl, hg, hn, rfl⟩, ?_⟩
    have : ∀ l : List AV, LeR os [] l l := fun l => by
      induction l with
      | nil => trivial
      | cons y l ih => exact ⟨.inl (.refl y), ih⟩
    exact this l
  | x :: l, k + 1, h => ⟨.inl (.refl x), LeR_set hg hn l k (by simpa using h)⟩
theorem Weak.freezeSet {st : St} (k : Nat) {id n e sz : Nat} {xs : List (List AV)} (hk : st.sl[k]? = some (.own id n)) (hg : getO st.os id = some (.row e sz xs)) (hn : n = xs.length) (h0 : st.n0 ≤ st.nx) (hu : UndL st.nx (st.sl.set k (.sl sz xs))) :
    Weak st ⟨st.sl.set k (.sl sz xs), [], st.nx, st.n0⟩ :=
  Weak.freezeR (LeR_set hg hn _ _ hk) trivial (Nat.le_refl _) h0 hu trivial
def lsA : ActT := ActT.none 7
theorem lsA_err : lsA.err = 0 := by decide +kernel
theorem lsA_text : lsA.text' = ⟨#[108, 105, 115, 116]⟩ := (rl7 rfl).symm
def lsL (n : Nat) : List ActT := List.replicate n lsA
theorem catRep (n : Nat) : catL (lsL (n + 1)) = catL (lsL n) ++ ⟨#[108, 105, 115, 116, 10]⟩ := by
  unfold lsL
  rw [List.replicate_succ', catL_snoc, lsA_text]
  apply tb_inj
  simp only [tb_app, List.append_assoc]; rfl
theorem catRep_size : ∀ n : Nat, (catL (lsL n)).size = 5 * n
  | 0 => rfl
  | n + 1 => by rw [catRep, size_add, catRep_size n]; show 5 * n + 5 = _; omega
theorem lsL_ok (n : Nat) : okAll (lsL n) := fun a ha => by
  rw [(List.mem_replicate.1 ha).2]; exact ⟨none_fits 7, lsA_err⟩
theorem lsL_in (n : Nat) (hn : n ≤ 300) : ActsIn (lsL n) := ⟨(lsL_ok n).wide, fun k _ _ => by
  have := catL_take (l := lsL n) k
  rw [catRep_size] at this; omega⟩
theorem lsL_len (n : Nat) : (lsL n).length = n := List.length_replicate
def lsM (n i : Nat) : List (List AV) := List.replicate i lsA.cells ++ List.replicate (n - i) [.v (.int .i64 0), .v (.string ByteArray.empty), .v (.int .i64 0), .v (.int .i64 0), .v (.string ByteArray.empty), .v (.int .i64 0), .v (.int .i64 0), .v (.int .i64 0), .v (.int .i64 0)]
theorem lsM_zero (n : Nat) : lsM n 0 = List.replicate n [.v (.int .i64 0), .v (.string ByteArray.empty), .v (.int .i64 0), .v (.int .i64 0), .v (.string ByteArray.empty), .v (.int .i64 0), .v (.int .i64 0), .v (.int .i64 0), .v (.int .i64 0)] := rfl
theorem lsM_len {n i : Nat} (h : i ≤ n) : (lsM n i).length = n := by
  unfold lsM; rw [List.length_append, List.length_replicate, List.length_replicate]; omega
theorem lsM_data (n i : Nat) : Data (.sl 9 (lsM n i)) := .sl fun x hx => by
  unfold lsM at hx
  rcases List.mem_append.1 hx with hx | hx
  · rw [(List.mem_replicate.1 hx).2]; exact lsA.data
  · rw [(List.mem_replicate.1 hx).2]; exact (ActT.none 0).data
theorem rep_set {α : Type} (x y : α) : ∀ {n i : Nat}, i < n → (List.replicate i x ++ List.replicate (n - i) y).set i x = List.replicate (i + 1) x ++ List.replicate (n - (i + 1)) y
  | n + 1, 0, h => by simp [List.replicate_succ]
  | n + 1, i + 1, h => by
    have ih := rep_set x y (n := n) (i := i) (by omega)
    rw [show n + 1 - (i + 1) = n - i by omega, show n + 1 - (i + 1 + 1) = n - (i + 1) by omega, List.replicate_succ, List.cons_append, List.set_cons_succ, ih, List.replicate_succ (n := i + 1), List.cons_append]
theorem lsM_step {n i : Nat} (h : i < n) : (lsM n i).set i lsA.cells = lsM n (i + 1) := rep_set _ _ h
theorem lsM_all (n : Nat) : lsM n n = (lsL n).map ActT.cells := by
  unfold lsM lsL
  rw [Nat.sub_self, List.map_replicate]; simp
theorem lsM_at {n i : Nat} (h : i < n) : (lsM n i).getD i [] = [.v (.int .i64 0), .v (.string ByteArray.empty), .v (.int .i64 0), .v (.int .i64 0), .v (.string ByteArray.empty), .v (.int .i64 0), .v (.int .i64 0), .v (.int .i64 0), .v (.int .i64 0)] := by
  unfold lsM
  rw [List.getD_eq_getElem?_getD, List.getElem?_append_right (by simp), List.length_replicate, Nat.sub_self, List.getElem?_replicate, if_pos (by omega)]; rfl
def byM (m i c : Nat) : List (List AV) := List.replicate i [.v (.int .u8 (c : Int))] ++ List.replicate (m - i) [.v (.int .u8 0)]
theorem byM_zero (m c : Nat) : byM m 0 c = List.replicate m [.v (.int .u8 0)] := rfl
theorem byM_len {m i c : Nat} (h : i ≤ m) : (byM m i c).length = m := by
  unfold byM; rw [List.length_append, List.length_replicate, List.length_replicate]; omega
theorem byM_step {m i c : Nat} (h : i < m) : (byM m i c).set i [.v (.int .u8 (c : Int))] = byM m (i + 1) c := rep_set _ _ h
theorem byM_at {m i c : Nat} (h : i < m) : (byM m i c).getD i [] = [.v (.int .u8 0)] := by
  unfold byM
  rw [List.getD_eq_getElem?_getD, List.getElem?_append_right (by simp), List.length_replicate, Nat.sub_self, List.getElem?_replicate, if_pos (by omega)]; rfl
def repS (m c : Nat) : ByteArray := ofL (List.replicate m (UInt8.ofNat c))
theorem repS_size (m c : Nat) : (repS m c).size = m := by unfold repS; rw [ofL_size, List.length_replicate]
theorem byM_bytes {m c : Nat} (hc : c < 256) : bytesOf (byM m m c) = some ((List.replicate m (UInt8.ofNat c)).map fun c => (c.toNat : Int)) := by
  have e : byM m m c = (List.replicate m (UInt8.ofNat c)).map u8C := by
    unfold byM
    rw [Nat.sub_self, List.map_replicate]
    have : (UInt8.ofNat c).toNat = c := by simp; omega
    simp only [u8C, this, List.replicate_zero, List.append_nil]
  rw [e, bytesOf_u8]
theorem zcU : zeroC Tryd.prog 5 = some [.int .u8 0] := by kernel_rfl
def lgA (t : ByteArray) : ActT := ⟨1, ⟨#[97]⟩, 0, 0, t, 0, 0, 0, 0⟩
theorem lgA_err (t : ByteArray) : (lgA t).err = if t.size > 4096 then 2 else 0 := by
  have hn : nameB ⟨#[97]⟩ = true := by decide +kernel
  unfold ActT.err
  rw [if_neg (by unfold ActT.e1 lgA; simp [hn]), if_neg (by unfold ActT.e2 lgA; simp)]; rfl
theorem rd_rep : ∀ (k n i : Nat) (out : List ActT), (catL (lsL k)).size < n → i ≤ 200 → 200 < i + k → rdF n i (catL (lsL k)) out = ⟨[], 200, 2⟩
  | k, 0, i, out, hn, _, _ => by omega
  | 0, n + 1, i, out, hn, hi, hk => by omega
  | k + 1, n + 1, i, out, hn, hi, hk => by
    have hz := catRep_size (k + 1)
    rw [rdF, if_neg (by omega)]
    by_cases h2 : i = 200
    · rw [if_pos h2, h2]
    · rw [if_neg h2]
      have hc : lsL (k + 1) = lsA :: lsL k := by unfold lsL; rw [List.replicate_succ]
      obtain ⟨e1, e2, e3⟩ := nl_at (x := tb lsA.text') (r := tb (catL (lsL k))) (text_no10 lsA_err)
      rw [← catL_cons, ofL_tb] at e1 e2
      rw [← catL_cons] at e3
      have hy := prg_yes (s := lsA.text') ⟨none_fits 7, lsA_err, rfl⟩
      rw [hc, e1, e2, hy.1, hy.2, if_pos ⟨e3, rfl⟩]
      have hz2 := catRep_size k
      exact rd_rep k n (i + 1) _ (by omega) (by omega) (by omega)
theorem rd_long (n : Nat) (h : 200 < n) (hn : n ≤ 300) : rdA (catL (lsL n)) = ⟨[], 200, 2⟩ := rd_rep n _ 0 [] (Nat.lt_succ_self _) (by omega) (by omega)
theorem TapeLong_pure (a : Nat) (ha : a < 256) (c : Nat) (hc : c < 256) : APure Tryd.prog 8 [.v (.int .u8 (a : Int)), .v (.int .u8 (c : Int))] (.v (.bool true)) := by
  refine APure.mkL (.cons (.v _) (.cons (.v _) .nil)) (.v _) ?_
  refine ACalls_intro Tryd.func8 (by kernel_rfl) rfl (by rw [Tryd.ntmps8]; simp) (fun hm => ?_)
  simp only [Tryd.ntmps8, Tryd.results8, List.length_cons, List.length_nil, Nat.reduceAdd, Nat.reduceSub, List.replicate_succ, List.replicate_zero, List.cons_append, List.nil_append]
  obtain ⟨n, hnn⟩ : ∃ n, 195 + a % 12 = n := ⟨_, rfl⟩
  obtain ⟨m, hmm⟩ : ∃ m, 4090 + a % 12 = m := ⟨_, rfl⟩
  have ht : ((a : Int)).tmod 12 = ((a % 12 : Nat) : Int) := by (rw [Int.tmod_eq_emod_of_nonneg (by omega)]; omega)
  have hw1 : IntKind.i64.wrap (((a % 12 : Nat) : Int)) = ((a % 12 : Nat) : Int) := by (rw [wrap_in (by omega) (by omega)])
  have hw2 : IntKind.i64.wrap (195 + ((a % 12 : Nat) : Int)) = (n : Int) := by (rw [wrap_in (by omega) (by omega)]; omega)
  have hw3 : IntKind.i64.wrap (4090 + ((a % 12 : Nat) : Int)) = (m : Int) := by (rw [wrap_in (by omega) (by omega)]; omega)
  refine AWp_seqK fun Y0 y0 => ?_
  refine AWp_region ?_
  simp only [↓bO, go_sem, seval, wrA_eq, ht, hw1, hw2, hw3, lineA, beq_self_eq_true, ActT.cells]
  refine y0 _ ?_
  try clear y0 Y0
  refine AWp_seqK fun Y0 y0 => ?_
  refine AWp_region ?_
  iterate 4 (refine aops_chunk 1 fun Q0 q0 => ?_; simp only [↓bO, go_sem, seval, wrA_eq, ht, hw1, hw2, hw3, lineA, beq_self_eq_true, ActT.cells]; refine q0 _ ?_; clear q0 Q0; simp only [go_sem])
  simp only [↓bO, go_sem, seval, wrA_eq, ht, hw1, hw2, hw3, lineA, beq_self_eq_true, ActT.cells]
  refine y0 _ ?_
  try clear y0 Y0
  refine AWp_seqK fun Y0 y0 => ?_
  refine AWp_midK 1 [_] [_] rfl fun Q0 q0 => ?_
  simp only [go_sem]
  simp only [↓bO, go_sem, seval, wrA_eq, ht, hw1, hw2, hw3, lineA, beq_self_eq_true, ActT.cells]
  refine q0 _ ?_
  clear q0 Q0
  refine MidAt_make ei39 zc30 rfl rfl (n := n) (by omega) (by omega) (by omega) ?_
  simp only [putO, bS, bA, wrA_eq, bL, ht, hw1, hw2, hw3, lineA, beq_self_eq_true, List.length_map, ActT.cells]
  simp only [↓bO, go_sem, seval, wrA_eq, ht, hw1, hw2, hw3, lineA, beq_self_eq_true, ActT.cells]
  refine y0 _ ?_
  try clear y0 Y0
  refine AWp_seqK fun Y0 y0 => ?_
  refine AWp_region ?_
  simp only [↓bO, go_sem, seval, wrA_eq, ht, hw1, hw2, hw3, lineA, beq_self_eq_true, ActT.cells]
  refine y0 _ ?_
  try clear y0 Y0
  refine AWp_seqK fun Y0 y0 => ?_
  refine AWp_seqK fun Y1 y1 => ?_
  refine AWp_region ?_
  simp only [↓bO, go_sem, seval, wrA_eq, ht, hw1, hw2, hw3, lineA, beq_self_eq_true, ActT.cells]
  refine y1 _ ?_
  try clear y1 Y1
  refine AWp_block ?_
  refine AWp_loopM (σ := Nat) (mB 139 483) (fun i => i ≤ n) (fun i => [(6, .own 0 n), (7, .v (.string (catL (lsL i)))), (8, .v (.int .i64 (i : Int)))]) (fun i => [(0, .row 30 9 (lsM n i))]) (fun i => n - i) 0 (Nat.zero_le _) ?_ (fun i hi => ?_)
  ·
   try simp only [maskL, setsL, putsO, putO, mB, List.set_cons_zero, List.set_cons_succ, seval, lsM_zero, lsL, List.replicate_zero, catL, List.foldl_nil, Int.natCast_zero, bL, emp_eq]
   exact Weak.mk (by simp only [go_sem, Le.refl, Le.any, Le.slNil, Int.natCast_add, Int.cast_ofNat_Int, Int.natCast_one]) (fun _ _ h => h) rfl rfl
  simp only [maskL, setsL, putsO, putO, mB, List.set_cons_zero, List.set_cons_succ, seval]
  have hw0 : IntKind.i64.wrap ((i : Int) + 1) = ((i + 1 : Nat) : Int) := by (rw [wrap_in (by omega) (by omega)]; omega)
  refine AWp_seqK fun Y1 y1 => ?_
  refine AWp_seqK fun Y2 y2 => ?_
  refine AWp_region ?_
  iterate 2 (refine aops_chunk 1 fun Q0 q0 => ?_; simp only [↓bO, go_sem, seval, wrA_eq, ht, hw1, hw2, hw3, lineA, beq_self_eq_true, ActT.cells, hw0]; refine q0 _ ?_; clear q0 Q0; simp only [go_sem])
  simp only [↓bO, go_sem, seval, wrA_eq, ht, hw1, hw2, hw3, lineA, beq_self_eq_true, ActT.cells, hw0]
  refine y2 _ ?_
  try clear y2 Y2
  refine AWp_cond rfl (fun hb27 => ?_) (fun hb27 => ?_)
  ·
   have hlt : i < n := (by have h9 := hb27; simpa using h9)
   have hst := lsM_step hlt
   have hat := lsM_at hlt
   have hcr := catRep i
   have hml := lsM_len (n := n) (i := i) (by omega)
   have hcz := catRep_size i
   have hm1 : ((((catL (lsL i)).size + (#[108, 105, 115, 116, 10] : Array UInt8).size : Nat) : Int) ≤ IntKind.i64.max) = True := eq_true (by (have g : (#[108, 105, 115, 116, 10] : Array UInt8).size = 5 := rfl); (show (((catL (lsL i)).size + (#[108, 105, 115, 116, 10] : Array UInt8).size : Nat) : Int) ≤ 9223372036854775807); omega)
   refine AWp_skip ?_
   try simp only [thenQ, blockQ, noGotoQ]
   refine y1 _ ?_
   try clear y1 Y1
   refine AWp_seqK fun Y1 y1 => ?_
   refine AWp_block ?_
   refine AWp_seqK fun Y2 y2 => ?_
   refine AWp_region ?_
   iterate 4 (refine aops_chunk 1 fun Q0 q0 => ?_; simp only [↓bO, go_sem, seval, wrA_eq, ht, hw1, hw2, hw3, lineA, beq_self_eq_true, ActT.cells, hw0, hlt, hat, hcr, hml, hm1]; refine q0 _ ?_; clear q0 Q0; simp only [go_sem])
   simp only [↓bO, go_sem, seval, wrA_eq, ht, hw1, hw2, hw3, lineA, beq_self_eq_true, ActT.cells, hw0, hlt, hat, hcr, hml, hm1]
   refine y2 _ ?_
   try clear y2 Y2
   refine AWp_region ?_
   iterate 2 (refine aops_chunk 1 fun Q0 q0 => ?_; simp only [↓bO, go_sem, seval, wrA_eq, ht, hw1, hw2, hw3, lineA, beq_self_eq_true, ActT.cells, hw0, hlt, hat, hcr, hml, hm1]; refine q0 _ ?_; clear q0 Q0; simp only [go_sem])
   simp only [↓bO, go_sem, seval, wrA_eq, ht, hw1, hw2, hw3, lineA, beq_self_eq_true, ActT.cells, hw0, hlt, hat, hcr, hml, hm1]
   refine y1 _ ?_
   try clear y1 Y1
   refine AWp_region ?_
   iterate 2 (refine aops_chunk 1 fun Q0 q0 => ?_; simp only [↓bO, go_sem, seval, wrA_eq, ht, hw1, hw2, hw3, lineA, beq_self_eq_true, ActT.cells, hw0, hlt, hat, hcr, hml, hm1]; refine q0 _ ?_; clear q0 Q0; simp only [go_sem])
   simp only [↓bO, go_sem, seval, wrA_eq, ht, hw1, hw2, hw3, lineA, beq_self_eq_true, ActT.cells, hw0, hlt, hat, hcr, hml, hm1]
   refine ⟨(i + 1), (by omega), (by omega), ?_⟩
   try simp only [maskL, setsL, putsO, putO, mB, List.set_cons_zero, List.set_cons_succ, seval, mB, seval, hw0, hcr]
   have hst2 : (lsM n i).set i _ = lsM n (i + 1) := hst
   try simp only [lsA, ActT.none, ActT.cells] at hst2
   try rw [hst2]
   exact Weak.mk (by simp only [go_sem, Le.refl, Le.any]) (fun _ _ h => h) rfl rfl
  ·
   have hin : n = i := (by have h9 := hb27; simp at h9; omega)
   subst hin
   refine AWp_exit ?_
   simp only [thenQ, blockQ, noGotoQ, bA, Nat.reduceEqDiff, ↓reduceIte]
   refine y0 _ ?_
   try clear y0 Y0
   refine AWp_weak (Weak.freezeSet 6 (by rfl) (by rfl) (by rw [lsM_len (Nat.le_refl _)]) (by simp only; omega) ?_) ?_
   ·
    simp only [List.set_cons_zero, List.set_cons_succ]
    repeat' first | exact trivial | exact .any _ | exact .v _ _ | exact .data (dataActs _) | exact .data (lsM_data _ _) | exact .data (.sl fun x hx => by (rw [byM] at hx; rcases List.mem_append.1 hx with hx | hx <;> (rw [(List.mem_replicate.1 hx).2]; exact .cons (.v _) .nil))) | exact .own (by omega) | (refine ⟨?_, ?_⟩)
   simp only [List.set_cons_zero, List.set_cons_succ]
   simp only [lsM_all]
   refine AWp_seqK fun Y0 y0 => ?_
   refine AWp_region ?_
   refine aops_chunk 1 fun Q0 q0 => ?_
   simp only [↓bO, go_sem, seval, wrA_eq, ht, hw1, hw2, hw3, lineA, beq_self_eq_true, ActT.cells]
   refine q0 _ ?_
   clear q0 Q0
   simp only [go_sem]
   refine aops_chunk 1 fun Q0 q0 => ?_
   simp only [↓bO, go_sem, seval, wrA_eq, ht, hw1, hw2, hw3, lineA, beq_self_eq_true, ActT.cells]
   refine APure.call (Write_pure (lsL n) (lsL_in n (by omega)) (by rw [lsL_len]; omega)) ?_
   try simp only [bS, bA, thenQ, blockQ, noGotoQ]
   refine q0 _ ?_
   clear q0 Q0
   simp only [go_sem]
   refine aops_chunk 1 fun Q0 q0 => ?_
   simp only [↓bO, go_sem, seval, wrA_eq, ht, hw1, hw2, hw3, lineA, beq_self_eq_true, ActT.cells]
   iterate 3 (refine q0 _ ?_; clear q0 Q0; simp only [go_sem]; refine aops_chunk 1 fun Q0 q0 => ?_; simp only [↓bO, go_sem, seval, aExtract_tup, wrA_eq, ht, hw1, hw2, hw3, lineA, beq_self_eq_true, ActT.cells])
   iterate 2 (refine q0 _ ?_; clear q0 Q0; simp only [go_sem]; refine aops_chunk 1 fun Q0 q0 => ?_; simp only [↓bO, go_sem, seval, wrA_eq, ht, hw1, hw2, hw3, lineA, beq_self_eq_true, ActT.cells])
   refine q0 _ ?_
   clear q0 Q0
   simp only [go_sem]
   simp only [↓bO, go_sem, seval, wrA_eq, ht, hw1, hw2, hw3, lineA, beq_self_eq_true, ActT.cells]
   refine y0 _ ?_
   try clear y0 Y0
   refine AWp_seqK fun Y0 y0 => ?_
   refine AWp_region ?_
   refine aops_chunk 1 fun Q0 q0 => ?_
   simp only [↓bO, go_sem, seval, wrA_eq, ht, hw1, hw2, hw3, lineA, beq_self_eq_true, ActT.cells]
   refine q0 _ ?_
   clear q0 Q0
   simp only [go_sem]
   refine aops_chunk 1 fun Q0 q0 => ?_
   simp only [↓bO, go_sem, seval, wrA_eq, ht, hw1, hw2, hw3, lineA, beq_self_eq_true, ActT.cells]
   refine APure.call (Read_pure (catL (lsL n)) (by rw [catRep_size]; omega)) ?_
   try simp only [bS, bA, thenQ, blockQ, noGotoQ]
   refine q0 _ ?_
   clear q0 Q0
   simp only [go_sem]
   refine aops_chunk 1 fun Q0 q0 => ?_
   simp only [↓bO, go_sem, seval, wrA_eq, ht, hw1, hw2, hw3, lineA, beq_self_eq_true, ActT.cells]
   iterate 3 (refine q0 _ ?_; clear q0 Q0; simp only [go_sem]; refine aops_chunk 1 fun Q0 q0 => ?_; simp only [↓bO, go_sem, seval, aExtract_tup, wrA_eq, ht, hw1, hw2, hw3, lineA, beq_self_eq_true, ActT.cells])
   iterate 2 (refine q0 _ ?_; clear q0 Q0; simp only [go_sem]; refine aops_chunk 1 fun Q0 q0 => ?_; simp only [↓bO, go_sem, seval, wrA_eq, ht, hw1, hw2, hw3, lineA, beq_self_eq_true, ActT.cells])
   refine q0 _ ?_
   clear q0 Q0
   simp only [go_sem]
   simp only [↓bO, go_sem, seval, wrA_eq, ht, hw1, hw2, hw3, lineA, beq_self_eq_true, ActT.cells]
   refine y0 _ ?_
   try clear y0 Y0
   refine AWp_seqK fun Y0 y0 => ?_
   refine AWp_midK 4 [_] [_] rfl fun Q0 q0 => ?_
   iterate 3 (simp only [go_sem]; refine aops_chunk 1 fun Q0 q0 => ?_; simp only [↓bO, go_sem, seval, wrA_eq, ht, hw1, hw2, hw3, lineA, beq_self_eq_true, ActT.cells]; refine q0 _ ?_; clear q0 Q0)
   simp only [go_sem]
   simp only [↓bO, go_sem, seval, wrA_eq, ht, hw1, hw2, hw3, lineA, beq_self_eq_true, ActT.cells]
   refine q0 _ ?_
   clear q0 Q0
   refine MidAt_make ei50 zcU rfl rfl (n := m) (by omega) (by omega) (by omega) ?_
   simp only [putO, bS, bA, wrA_eq, bL, ht, hw1, hw2, hw3, lineA, beq_self_eq_true, List.length_map, ActT.cells]
   simp only [↓bO, go_sem, seval, wrA_eq, ht, hw1, hw2, hw3, lineA, beq_self_eq_true, ActT.cells]
   refine y0 _ ?_
   try clear y0 Y0
   refine AWp_seqK fun Y0 y0 => ?_
   refine AWp_seqK fun Y1 y1 => ?_
   refine AWp_region ?_
   simp only [↓bO, go_sem, seval, wrA_eq, ht, hw1, hw2, hw3, lineA, beq_self_eq_true, ActT.cells]
   refine y1 _ ?_
   try clear y1 Y1
   refine AWp_block ?_
   refine AWp_loopM (σ := Nat) (mB 139 130786) (fun i => i ≤ m) (fun i => [(15, .own 1 m), (16, .v (.int .i64 (i : Int)))]) (fun i => [(1, .row 5 1 (byM m i c))]) (fun i => m - i) 0 (Nat.zero_le _) ?_ (fun i hi => ?_)
   ·
    try simp only [maskL, setsL, putsO, putO, mB, List.set_cons_zero, List.set_cons_succ, seval, byM_zero, Int.natCast_zero, bL]
    exact Weak.mk (by simp only [go_sem, Le.refl, Le.any, Le.slNil, Int.natCast_add, Int.cast_ofNat_Int, Int.natCast_one]) (fun _ _ h => h) rfl rfl
   simp only [maskL, setsL, putsO, putO, mB, List.set_cons_zero, List.set_cons_succ, seval]
   have hw0 : IntKind.i64.wrap ((i : Int) + 1) = ((i + 1 : Nat) : Int) := by (rw [wrap_in (by omega) (by omega)]; omega)
   have hml0 := byM_len (m := m) (i := i) (c := c) hi
   refine AWp_seqK fun Y1 y1 => ?_
   refine AWp_seqK fun Y2 y2 => ?_
   refine AWp_region ?_
   iterate 3 (refine aops_chunk 1 fun Q0 q0 => ?_; simp only [↓bO, go_sem, seval, wrA_eq, ht, hw1, hw2, hw3, lineA, beq_self_eq_true, ActT.cells, hw0, hml0]; refine q0 _ ?_; clear q0 Q0; simp only [go_sem])
   simp only [↓bO, go_sem, seval, wrA_eq, ht, hw1, hw2, hw3, lineA, beq_self_eq_true, ActT.cells, hw0, hml0]
   refine y2 _ ?_
   try clear y2 Y2
   refine AWp_cond rfl (fun hb56 => ?_) (fun hb56 => ?_)
   ·
    have hlt : i < m := (by have h9 := hb56; simpa using h9)
    have hst := byM_step (c := c) hlt
    have hat := byM_at (c := c) hlt
    have hml := byM_len (m := m) (i := i) (c := c) (by omega)
    refine AWp_skip ?_
    try simp only [thenQ, blockQ, noGotoQ]
    refine y1 _ ?_
    try clear y1 Y1
    refine AWp_seqK fun Y1 y1 => ?_
    refine AWp_block ?_
    refine AWp_region ?_
    iterate 4 (refine aops_chunk 1 fun Q0 q0 => ?_; simp only [↓bO, go_sem, seval, wrA_eq, ht, hw1, hw2, hw3, lineA, beq_self_eq_true, ActT.cells, hw0, hml0, hlt, hat, hml]; refine q0 _ ?_; clear q0 Q0; simp only [go_sem])
    simp only [↓bO, go_sem, seval, wrA_eq, ht, hw1, hw2, hw3, lineA, beq_self_eq_true, ActT.cells, hw0, hml0, hlt, hat, hml]
    refine y1 _ ?_
    try clear y1 Y1
    refine AWp_region ?_
    iterate 2 (refine aops_chunk 1 fun Q0 q0 => ?_; simp only [↓bO, go_sem, seval, wrA_eq, ht, hw1, hw2, hw3, lineA, beq_self_eq_true, ActT.cells, hw0, hml0, hlt, hat, hml]; refine q0 _ ?_; clear q0 Q0; simp only [go_sem])
    simp only [↓bO, go_sem, seval, wrA_eq, ht, hw1, hw2, hw3, lineA, beq_self_eq_true, ActT.cells, hw0, hml0, hlt, hat, hml]
    refine ⟨(i + 1), (by omega), (by omega), ?_⟩
    try simp only [maskL, setsL, putsO, putO, mB, List.set_cons_zero, List.set_cons_succ, seval, mB, seval, hw0]
    try rw [hst]
    exact Weak.mk (by simp only [go_sem, Le.refl, Le.any]) (fun _ _ h => h) rfl rfl
   ·
    have hin : m = i := (by have h9 := hb56; simp at h9; omega)
    subst hin
    refine AWp_exit ?_
    simp only [thenQ, blockQ, noGotoQ, bA, Nat.reduceEqDiff, ↓reduceIte]
    refine y0 _ ?_
    try clear y0 Y0
    refine AWp_weak (Weak.freezeSet 15 (by rfl) (by rfl) (by rw [byM_len (Nat.le_refl _)]) (by simp only; omega) ?_) ?_
    ·
     simp only [List.set_cons_zero, List.set_cons_succ]
     repeat' first | exact trivial | exact .any _ | exact .v _ _ | exact .data (dataActs _) | exact .data (lsM_data _ _) | exact .data (.sl fun x hx => by (rw [byM] at hx; rcases List.mem_append.1 hx with hx | hx <;> (rw [(List.mem_replicate.1 hx).2]; exact .cons (.v _) .nil))) | exact .own (by omega) | (refine ⟨?_, ?_⟩)
    simp only [List.set_cons_zero, List.set_cons_succ]
    have hbb := byM_bytes (m := m) hc
    have hbs : strOfNums ((List.replicate m (UInt8.ofNat c)).map fun c => (c.toNat : Int)) = repS m c := strOfNums_u8 _
    have hle := lgA_err (repS m c)
    rw [repS_size] at hle
    have hq1 : decide ((m : Int) > 4096) = ((lgA (repS m c)).err == 2) := by (rw [hle]; split <;> simp <;> omega)
    have hq2 : decide ((m : Int) ≤ 4096) = ((lgA (repS m c)).err == 0) := by (rw [hle]; split <;> simp <;> omega)
    refine AWp_seqK fun Y0 y0 => ?_
    refine AWp_region ?_
    refine aops_chunk 1 fun Q0 q0 => ?_
    simp only [↓bO, go_sem, seval, wrA_eq, ht, hw1, hw2, hw3, lineA, beq_self_eq_true, ActT.cells, hml0, hbb, hbs, hq1, hq2]
    refine q0 _ ?_
    clear q0 Q0
    simp only [go_sem]
    refine aops_chunk 1 fun Q0 q0 => ?_
    simp only [↓bO, go_sem, seval, aConvB, by50, wrA_eq, ht, hw1, hw2, hw3, lineA, beq_self_eq_true, ActT.cells, hml0, hbb, hbs, hq1, hq2]
    iterate 2 (refine q0 _ ?_; clear q0 Q0; simp only [go_sem]; refine aops_chunk 1 fun Q0 q0 => ?_; simp only [↓bO, go_sem, seval, wrA_eq, ht, hw1, hw2, hw3, lineA, beq_self_eq_true, ActT.cells, hml0, hbb, hbs, hq1, hq2])
    refine APure.call (by have h9 := TLine_pure (lgA (repS m c)) ⟨.zero, .zero, .zero, .zero, .zero, .zero⟩ (show (1 : Nat) ≤ 9223372036854775807 by omega) (by show (repS m c).size ≤ _; rw [repS_size]; omega); exact h9) ?_
    try simp only [bS, bA, thenQ, blockQ, noGotoQ]
    refine q0 _ ?_
    clear q0 Q0
    simp only [go_sem]
    refine aops_chunk 1 fun Q0 q0 => ?_
    simp only [↓bO, go_sem, seval, wrA_eq, ht, hw1, hw2, hw3, lineA, beq_self_eq_true, ActT.cells, hml0, hbb, hbs, hq1, hq2]
    iterate 2 (refine q0 _ ?_; clear q0 Q0; simp only [go_sem]; refine aops_chunk 1 fun Q0 q0 => ?_; simp only [↓bO, go_sem, seval, aExtract_tup, wrA_eq, ht, hw1, hw2, hw3, lineA, beq_self_eq_true, ActT.cells, hml0, hbb, hbs, hq1, hq2])
    refine q0 _ ?_
    clear q0 Q0
    simp only [go_sem]
    refine aops_chunk 1 fun Q0 q0 => ?_
    simp only [↓bO, go_sem, seval, wrA_eq, ht, hw1, hw2, hw3, lineA, beq_self_eq_true, ActT.cells, hml0, hbb, hbs, hq1, hq2]
    refine q0 _ ?_
    clear q0 Q0
    simp only [go_sem]
    simp only [↓bO, go_sem, seval, wrA_eq, ht, hw1, hw2, hw3, lineA, beq_self_eq_true, ActT.cells, hml0, hbb, hbs, hq1, hq2]
    refine y0 _ ?_
    try clear y0 Y0
    refine AWp_seqK fun Y0 y0 => ?_
    refine AWp_seqK fun Y1 y1 => ?_
    refine AWp_region ?_
    iterate 7 (refine aops_chunk 1 fun Q0 q0 => ?_; simp only [↓bO, go_sem, seval, wrA_eq, ht, hw1, hw2, hw3, lineA, beq_self_eq_true, ActT.cells, hml0, hbb, hbs, hq1, hq2]; refine q0 _ ?_; clear q0 Q0; simp only [go_sem])
    refine aops_case 76 rfl (fun hc76 => ?_) (fun hc76 => ?_)
    ·
     simp only [List.set_cons_zero, List.set_cons_succ]
     exact absurd hc76 (by simp)
    ·
     simp only [List.set_cons_zero, List.set_cons_succ]
     iterate 6 (refine aops_chunk 1 fun Q0 q0 => ?_; simp only [↓bO, go_sem, seval, wrA_eq, ht, hw1, hw2, hw3, lineA, beq_self_eq_true, ActT.cells, hml0, hbb, hbs, hq1, hq2]; refine q0 _ ?_; clear q0 Q0; simp only [go_sem])
     simp only [↓bO, go_sem, seval, wrA_eq, ht, hw1, hw2, hw3, lineA, beq_self_eq_true, ActT.cells, hml0, hbb, hbs, hq1, hq2]
     refine y1 _ ?_
     try clear y1 Y1
     refine AWp_cond rfl (fun hb83 => ?_) (fun hb83 => ?_)
     ·
      exact absurd hb83 (by simp)
     ·
      refine AWp_skip ?_
      try simp only [thenQ, blockQ, noGotoQ]
      refine y0 _ ?_
      try clear y0 Y0
      refine AWp_seqK fun Y0 y0 => ?_
      refine AWp_seqK fun Y1 y1 => ?_
      refine AWp_region ?_
      refine aops_chunk 1 fun Q0 q0 => ?_
      simp only [↓bO, go_sem, seval, wrA_eq, ht, hw1, hw2, hw3, lineA, beq_self_eq_true, ActT.cells, hml0, hbb, hbs, hq1, hq2]
      refine q0 _ ?_
      clear q0 Q0
      simp only [go_sem]
      simp only [↓bO, go_sem, seval, wrA_eq, ht, hw1, hw2, hw3, lineA, beq_self_eq_true, ActT.cells, hml0, hbb, hbs, hq1, hq2]
      refine y1 _ ?_
      try clear y1 Y1
      refine AWp_cond rfl (fun hb85 => ?_) (fun hb85 => ?_)
      ·
       have h200 : 200 < n := (by have h9 := hb85; simp at h9; omega)
       have hrl := rd_long n h200 (by omega)
       have hl9 : 200 < (lsL n).length := by (rw [lsL_len]; exact h200)
       have ht1 : wrT (lsL n) = ByteArray.empty := if_pos hl9
       have ht2 : wrN (lsL n) = 0 := if_pos hl9
       have ht3 : wrE (lsL n) = 2 := if_pos hl9
       simp only [ht1, ht2, ht3, hrl]
       refine AWp_seqK fun Y1 y1 => ?_
       refine AWp_region ?_
       iterate 3 (refine aops_chunk 1 fun Q0 q0 => ?_; simp only [↓bO, go_sem, seval, wrA_eq, ht, hw1, hw2, hw3, lineA, beq_self_eq_true, ActT.cells, hml0, hbb, hbs, hq1, hq2]; refine q0 _ ?_; clear q0 Q0; simp only [go_sem])
       refine aops_case 88 rfl (fun hc88 => ?_) (fun hc88 => ?_)
       ·
        simp only [List.set_cons_zero, List.set_cons_succ]
        iterate 4 (refine aops_chunk 1 fun Q0 q0 => ?_; simp only [↓bO, go_sem, seval, wrA_eq, ht, hw1, hw2, hw3, lineA, beq_self_eq_true, ActT.cells, hml0, hbb, hbs, hq1, hq2]; refine q0 _ ?_; clear q0 Q0; simp only [go_sem])
        refine aops_case 92 rfl (fun hc92 => ?_) (fun hc92 => ?_)
        ·
         simp only [List.set_cons_zero, List.set_cons_succ]
         iterate 4 (refine aops_chunk 1 fun Q0 q0 => ?_; simp only [↓bO, go_sem, seval, wrA_eq, ht, hw1, hw2, hw3, lineA, beq_self_eq_true, ActT.cells, hml0, hbb, hbs, hq1, hq2]; refine q0 _ ?_; clear q0 Q0; simp only [go_sem])
         refine aops_case 96 rfl (fun hc96 => ?_) (fun hc96 => ?_)
         ·
          simp only [List.set_cons_zero, List.set_cons_succ]
          iterate 5 (refine aops_chunk 1 fun Q0 q0 => ?_; simp only [↓bO, go_sem, seval, wrA_eq, ht, hw1, hw2, hw3, lineA, beq_self_eq_true, ActT.cells, hml0, hbb, hbs, hq1, hq2]; refine q0 _ ?_; clear q0 Q0; simp only [go_sem])
          refine aops_case 101 rfl (fun hc101 => ?_) (fun hc101 => ?_)
          ·
           simp only [List.set_cons_zero, List.set_cons_succ]
           iterate 4 (refine aops_chunk 1 fun Q0 q0 => ?_; simp only [↓bO, go_sem, seval, wrA_eq, ht, hw1, hw2, hw3, lineA, beq_self_eq_true, ActT.cells, hml0, hbb, hbs, hq1, hq2]; refine q0 _ ?_; clear q0 Q0; simp only [go_sem])
           refine aops_case 105 rfl (fun hc105 => ?_) (fun hc105 => ?_)
           ·
            simp only [List.set_cons_zero, List.set_cons_succ]
            iterate 4 (refine aops_chunk 1 fun Q0 q0 => ?_; simp only [↓bO, go_sem, seval, wrA_eq, ht, hw1, hw2, hw3, lineA, beq_self_eq_true, ActT.cells, hml0, hbb, hbs, hq1, hq2]; refine q0 _ ?_; clear q0 Q0; simp only [go_sem])
            refine aops_case 109 rfl (fun hc109 => ?_) (fun hc109 => ?_)
            ·
             simp only [List.set_cons_zero, List.set_cons_succ]
             refine aops_chunk 1 fun Q0 q0 => ?_
             simp only [↓bO, go_sem, seval, wrA_eq, ht, hw1, hw2, hw3, lineA, beq_self_eq_true, ActT.cells, hml0, hbb, hbs, hq1, hq2]
             refine APure.call (awake28_pure) ?_
             try simp only [bS, bA, thenQ, blockQ, noGotoQ]
             refine q0 _ ?_
             clear q0 Q0
             simp only [go_sem]
             refine aops_chunk 1 fun Q0 q0 => ?_
             simp only [↓bO, go_sem, seval, wrA_eq, ht, hw1, hw2, hw3, lineA, beq_self_eq_true, ActT.cells, hml0, hbb, hbs, hq1, hq2]
             refine q0 _ ?_
             clear q0 Q0
             simp only [go_sem]
             simp only [↓bO, go_sem, seval, wrA_eq, ht, hw1, hw2, hw3, lineA, beq_self_eq_true, ActT.cells, hml0, hbb, hbs, hq1, hq2]
             refine y1 _ ?_
             try clear y1 Y1
             refine AWp_ret ?_
             try simp only [thenQ, blockQ, noGotoQ, retQ, aRes, tupOf, bS, bA]
             exact Le.refl _
            ·
             simp only [List.set_cons_zero, List.set_cons_succ]
             exact absurd hc109 (by simp)
           ·
            simp only [List.set_cons_zero, List.set_cons_succ]
            exact absurd hc105 (by simp)
          ·
           simp only [List.set_cons_zero, List.set_cons_succ]
           exact absurd hc101 (by simp)
         ·
          simp only [List.set_cons_zero, List.set_cons_succ]
          exact absurd hc96 (by simp)
        ·
         simp only [List.set_cons_zero, List.set_cons_succ]
         exact absurd hc92 (by simp)
       ·
        simp only [List.set_cons_zero, List.set_cons_succ]
        exact absurd hc88 (by simp)
      ·
       have h200 : ¬ 200 < n := (by have h9 := hb85; simp at h9; omega)
       have hl9 : ¬ 200 < (lsL n).length := by (rw [lsL_len]; exact h200)
       have hbn : badAt (lsL n) = none := badAt_none fun j a hj hb => (lsL_ok n a (List.mem_of_getElem? hb)).2
       have ht1 : wrT (lsL n) = catL (lsL n) := by (unfold wrT; rw [if_neg hl9, hbn]; rfl)
       have ht2 : wrN (lsL n) = 0 := by (unfold wrN; rw [if_neg hl9, hbn])
       have ht3 : wrE (lsL n) = 0 := by (unfold wrE; rw [if_neg hl9, hbn])
       have hrd := rd_all (lsL_ok n) (by omega)
       have hsm : actsB (lsL n) (lsL n) = true := decide_eq_true rfl
       simp only [ht1, ht2, ht3, hrd]
       refine AWp_skip ?_
       try simp only [thenQ, blockQ, noGotoQ]
       refine y0 _ ?_
       try clear y0 Y0
       refine AWp_seqK fun Y0 y0 => ?_
       refine AWp_region ?_
       iterate 4 (refine aops_chunk 1 fun Q0 q0 => ?_; simp only [↓bO, go_sem, seval, wrA_eq, ht, hw1, hw2, hw3, lineA, beq_self_eq_true, ActT.cells, hml0, hbb, hbs, hq1, hq2, hsm]; refine q0 _ ?_; clear q0 Q0; simp only [go_sem])
       refine aops_case 115 rfl (fun hc115 => ?_) (fun hc115 => ?_)
       ·
        simp only [List.set_cons_zero, List.set_cons_succ]
        iterate 4 (refine aops_chunk 1 fun Q0 q0 => ?_; simp only [↓bO, go_sem, seval, wrA_eq, ht, hw1, hw2, hw3, lineA, beq_self_eq_true, ActT.cells, hml0, hbb, hbs, hq1, hq2, hsm]; refine q0 _ ?_; clear q0 Q0; simp only [go_sem])
        refine aops_case 119 rfl (fun hc119 => ?_) (fun hc119 => ?_)
        ·
         simp only [List.set_cons_zero, List.set_cons_succ]
         iterate 4 (refine aops_chunk 1 fun Q0 q0 => ?_; simp only [↓bO, go_sem, seval, wrA_eq, ht, hw1, hw2, hw3, lineA, beq_self_eq_true, ActT.cells, hml0, hbb, hbs, hq1, hq2, hsm]; refine q0 _ ?_; clear q0 Q0; simp only [go_sem])
         refine aops_case 123 rfl (fun hc123 => ?_) (fun hc123 => ?_)
         ·
          simp only [List.set_cons_zero, List.set_cons_succ]
          iterate 4 (refine aops_chunk 1 fun Q0 q0 => ?_; simp only [↓bO, go_sem, seval, wrA_eq, ht, hw1, hw2, hw3, lineA, beq_self_eq_true, ActT.cells, hml0, hbb, hbs, hq1, hq2, hsm]; refine q0 _ ?_; clear q0 Q0; simp only [go_sem])
          refine aops_case 127 rfl (fun hc127 => ?_) (fun hc127 => ?_)
          ·
           simp only [List.set_cons_zero, List.set_cons_succ]
           iterate 4 (refine aops_chunk 1 fun Q0 q0 => ?_; simp only [↓bO, go_sem, seval, wrA_eq, ht, hw1, hw2, hw3, lineA, beq_self_eq_true, ActT.cells, hml0, hbb, hbs, hq1, hq2, hsm]; refine q0 _ ?_; clear q0 Q0; simp only [go_sem])
           refine aops_case 131 rfl (fun hc131 => ?_) (fun hc131 => ?_)
           ·
            simp only [List.set_cons_zero, List.set_cons_succ]
            iterate 2 (refine aops_chunk 1 fun Q0 q0 => ?_; simp only [↓bO, go_sem, seval, wrA_eq, ht, hw1, hw2, hw3, lineA, beq_self_eq_true, ActT.cells, hml0, hbb, hbs, hq1, hq2, hsm]; refine q0 _ ?_; clear q0 Q0; simp only [go_sem])
            refine aops_chunk 1 fun Q0 q0 => ?_
            simp only [↓bO, go_sem, seval, wrA_eq, ht, hw1, hw2, hw3, lineA, beq_self_eq_true, ActT.cells, hml0, hbb, hbs, hq1, hq2, hsm]
            refine APure.call (same28_pure (lsL n) (lsL n) (by rw [lsL_len]; omega) (by rw [lsL_len]; omega)) ?_
            try simp only [bS, bA, thenQ, blockQ, noGotoQ]
            iterate 2 (refine q0 _ ?_; clear q0 Q0; simp only [go_sem]; refine aops_chunk 1 fun Q0 q0 => ?_; simp only [↓bO, go_sem, seval, wrA_eq, ht, hw1, hw2, hw3, lineA, beq_self_eq_true, ActT.cells, hml0, hbb, hbs, hq1, hq2, hsm])
            refine q0 _ ?_
            clear q0 Q0
            simp only [go_sem]
            refine aops_case 136 rfl (fun hc136 => ?_) (fun hc136 => ?_)
            ·
             simp only [List.set_cons_zero, List.set_cons_succ]
             refine aops_chunk 1 fun Q0 q0 => ?_
             simp only [↓bO, go_sem, seval, wrA_eq, ht, hw1, hw2, hw3, lineA, beq_self_eq_true, ActT.cells, hml0, hbb, hbs, hq1, hq2, hsm]
             refine APure.call (awake28_pure) ?_
             try simp only [bS, bA, thenQ, blockQ, noGotoQ]
             refine q0 _ ?_
             clear q0 Q0
             simp only [go_sem]
             refine aops_chunk 1 fun Q0 q0 => ?_
             simp only [↓bO, go_sem, seval, wrA_eq, ht, hw1, hw2, hw3, lineA, beq_self_eq_true, ActT.cells, hml0, hbb, hbs, hq1, hq2, hsm]
             refine q0 _ ?_
             clear q0 Q0
             simp only [go_sem]
             simp only [↓bO, go_sem, seval, wrA_eq, ht, hw1, hw2, hw3, lineA, beq_self_eq_true, ActT.cells, hml0, hbb, hbs, hq1, hq2, hsm]
             refine y0 _ ?_
             try clear y0 Y0
             refine AWp_ret ?_
             try simp only [thenQ, blockQ, noGotoQ, retQ, aRes, tupOf, bS, bA]
             exact Le.refl _
            ·
             simp only [List.set_cons_zero, List.set_cons_succ]
             exact absurd hc136 (by simp)
           ·
            simp only [List.set_cons_zero, List.set_cons_succ]
            exact absurd hc131 (by simp)
          ·
           simp only [List.set_cons_zero, List.set_cons_succ]
           exact absurd hc127 (by simp)
         ·
          simp only [List.set_cons_zero, List.set_cons_succ]
          exact absurd hc123 (by simp)
        ·
         simp only [List.set_cons_zero, List.set_cons_succ]
         exact absurd hc119 (by simp)
       ·
        simp only [List.set_cons_zero, List.set_cons_succ]
        exact absurd hc115 (by simp)
end Go.Proofs.YtmepcmphcghbeaaDoor
namespace Go.Proofs.YtmepcmphcghbeaaDoor.tapeLong
open Go Go.ChangeShapes Go.WideShapes Go.ChangeAt Go.RowKit
set_option linter.unusedVariables false
theorem own : ownKnob Tryd.prog.godebug = none := by kernel_rfl
theorem laidOut : laidOutB Tryd.prog = true := by kernel_rfl
section
variable {H : Type} {enc : TypeId × Value → H} {w : World} {base : Nat} {spare : Nat → Bool} {held : Bool}
end
set_option maxRecDepth 100000 in
theorem lifted (os : Go.Os) (started : os.Started) (H : Type) (enc : TypeId × Value → H) :
    ReturnsInHanded {} Tryd.checked os 8 .any (fun w args => (Rows.tapeLongSpec.pre enc Tryd.prog Tryd.f8 Rows.tapeLongRow.domain false w args ∧ laidMetH Tryd.prog Rows.tapeLongRow.laid w) ∧ sizedMet enc Tryd.prog Tryd.f8 (OpenSpec.ofChange Rows.tapeLongSpec) false w args)
      (Rows.tapeLongSpec.post enc Tryd.prog Tryd.f8 false true false false) := by
  refine handed_laid_shaped (C := Tryd.checked) (X := fun w _ => laidMetH Tryd.prog Rows.tapeLongRow.laid w) (fun _ _ _ hh h => h.of_heap hh) own started (by kernel_rfl) Tryd.func8
    (ChangeSpec.witness_shaped (enc := enc) (C := Tryd.checked) (os := os) (X := fun w _ => laidMetH Tryd.prog Rows.tapeLongRow.laid w) false (World.laidAll Tryd.prog os Rows.tapeLongRow.laid) #[.int .u8 0, .int .u8 0] 8 (World.laidAll_os _ _ _)
      (World.shaped_of_ZipB (by kernel_rfl) (by kernel_rfl)) (by kernel_rfl) (by kernel_rfl) (by kernel_rfl)
      (by rw [MakeChecks.laidMetH_plain _ _ _ (by kernel_rfl)]; exact laidMet_laidAll _ (by kernel_rfl) (by kernel_rfl))) ?_
  intro W base args ds gs before hval0 hW hcnd hL hsh
  have hlaid : laidMet Tryd.prog Rows.tapeLongRow.laid W := by have h := hL; rw [MakeChecks.laidMetH_plain _ _ _ (by kernel_rfl)] at h; exact h
  have hgl : Gl (fun _ _ => False) W := by
    refine ⟨?_, ?_, ?_⟩
    · intro p hp
      have hp : p ∈ [(0, gv0), (2, gv2), (4, gv4)] := hp
      rcases List.mem_cons.1 hp with rfl | hp
      · refine gl_strs (strsIs_of_head (lls := [[[], []], [[111, 112, 101, 110], [110, 116]], [[101, 100, 105, 116], [110, 102, 111, 116]], [[99, 108, 111, 115, 101], [110]], [[99, 104, 101, 99, 107], [110]], [[114, 117, 110], [110, 117]], [[108, 105, 109, 105, 116], [108]], [[108, 105, 115, 116], []]]) (l := gy0) (g := 0) (t := 62) (e := 61) (s := 9) (n := 8) (m := 2) (rest := []) (name := "pangram/tape.uses") (by kernel_rfl) (by kernel_rfl) Tryd.underlying62 Tryd.underlying61 Tryd.underlying9 (by kernel_rfl) (by kernel_rfl) (by kernel_rfl) (by kernel_rfl) ?_) (by kernel_rfl) rfl
        have h := hlaid.filter (fun x => x.1 == "pangram/tape.uses")
        rw [show (Rows.tapeLongRow.laid.filter fun x => x.1 == "pangram/tape.uses") = [("pangram/tape.uses", .agg (([[[], []], [[111, 112, 101, 110], [110, 116]], [[101, 100, 105, 116], [110, 102, 111, 116]], [[99, 108, 111, 115, 101], [110]], [[99, 104, 101, 99, 107], [110]], [[114, 117, 110], [110, 117]], [[108, 105, 109, 105, 116], [108]], [[108, 105, 115, 116], []]] : List (List (List UInt8))).map fun ls => .agg (ls.map fun l => .lit (.string l))))] from by kernel_rfl] at h
        exact h
      rcases List.mem_cons.1 hp with rfl | hp
      · refine gl_one (Lib.tabIs_of_head (zs := gz2) (k := .u8) (g := 2) (t := 98) (e := 5) (n := 256) (rest := []) (name := "strings.asciiSpace") (by kernel_rfl) (by kernel_rfl) Tryd.underlying98 Tryd.underlying5 (by kernel_rfl) (by kernel_rfl) ?_) (by kernel_rfl) rfl
        have h := hlaid.filter (fun x => x.1 == "strings.asciiSpace")
        rw [show (Rows.tapeLongRow.laid.filter fun x => x.1 == "strings.asciiSpace") = [("strings.asciiSpace", Lib.tabData .u8 gz2)] from by kernel_rfl] at h
        exact h
      rcases List.mem_cons.1 hp with rfl | hp
      · refine gl_one (Lib.tabIs_of_head (zs := gz4) (k := .u64) (g := 4) (t := 121) (e := 85) (n := 20) (rest := []) (name := "internal/strconv.uint64pow10") (by kernel_rfl) (by kernel_rfl) Tryd.underlying121 Tryd.underlying85 (by kernel_rfl) (by kernel_rfl) ?_) (by kernel_rfl) rfl
        have h := hlaid.filter (fun x => x.1 == "internal/strconv.uint64pow10")
        rw [show (Rows.tapeLongRow.laid.filter fun x => x.1 == "internal/strconv.uint64pow10") = [("internal/strconv.uint64pow10", Lib.tabData .u64 gz4)] from by kernel_rfl] at h
        exact h
      cases hp
    · intro p hp
      have hp : p ∈ ([5, 6] : List Nat) := hp
      rcases List.mem_cons.1 hp with rfl | hp
      · have h := hlaid.filter (fun x => x.1 == "strconv.ErrSyntax")
        rw [show (Rows.tapeLongRow.laid.filter fun x => x.1 == "strconv.ErrSyntax") = [("strconv.ErrSyntax", .iface "*errors.errorString" (.ptr (.agg [.lit (.string [105, 110, 118, 97, 108, 105, 100, 32, 115, 121, 110, 116, 97, 120])])))] from by kernel_rfl] at h
        obtain ⟨a0, s0, hv0, _⟩ := laid_sentinel (g := 5) (ti := 77) (tp := 142) (te := 144) (ts := 9) h (by kernel_rfl) (by kernel_rfl) Tryd.underlying77
          (fun u hu => typeName_ptr_named (nm := "errors.errorString") (by rw [show "*" ++ "errors.errorString" = "*errors.errorString" by decide]; kernel_rfl) (by kernel_rfl) (by decide) u (by rw [show "*" ++ "errors.errorString" = "*errors.errorString" by decide]; exact hu))
          Tryd.underlying142 Tryd.underlying144 rfl rfl Tryd.underlying9 (by kernel_rfl) (by kernel_rfl)
        exact glE_one hv0 (by kernel_rfl)
      rcases List.mem_cons.1 hp with rfl | hp
      · have h := hlaid.filter (fun x => x.1 == "strconv.ErrRange")
        rw [show (Rows.tapeLongRow.laid.filter fun x => x.1 == "strconv.ErrRange") = [("strconv.ErrRange", .iface "*errors.errorString" (.ptr (.agg [.lit (.string [118, 97, 108, 117, 101, 32, 111, 117, 116, 32, 111, 102, 32, 114, 97, 110, 103, 101])])))] from by kernel_rfl] at h
        obtain ⟨a0, s0, hv0, _⟩ := laid_sentinel (g := 6) (ti := 77) (tp := 142) (te := 144) (ts := 9) h (by kernel_rfl) (by kernel_rfl) Tryd.underlying77
          (fun u hu => typeName_ptr_named (nm := "errors.errorString") (by rw [show "*" ++ "errors.errorString" = "*errors.errorString" by decide]; kernel_rfl) (by kernel_rfl) (by decide) u (by rw [show "*" ++ "errors.errorString" = "*errors.errorString" by decide]; exact hu))
          Tryd.underlying142 Tryd.underlying144 rfl rfl Tryd.underlying9 (by kernel_rfl) (by kernel_rfl)
        exact glE_one hv0 (by kernel_rfl)
      cases hp
    · intro p hp
      have hp : p ∈ ([Lib.WhiteTab 3, fun w => ∃ m : Int, w.cell? ⟨1, 0, none⟩ = some (.int .i64 m)] : List (World → Prop)) := hp
      rcases List.mem_cons.1 hp with rfl | hp
      · intro w1 hs1
        have h := hlaid.filter (fun x => x.1 == "unicode.White_Space")
        rw [show (Rows.tapeLongRow.laid.filter fun x => x.1 == "unicode.White_Space") = [("unicode.White_Space", Lib.whiteData)] from by kernel_rfl] at h
        exact WhiteTab_below (whiteTab_of_reads { Tryd.lays157 with } ⟨by kernel_rfl, by kernel_rfl, by kernel_rfl, by kernel_rfl, by kernel_rfl, by kernel_rfl, by kernel_rfl, by kernel_rfl⟩ (Lib.laidMet.reads h (.head _))) hs1.below
      rcases List.mem_cons.1 hp with rfl | hp
      · intro w1 hs1
        obtain ⟨m, hm⟩ := cell_of_shapedOpen_int (P := Tryd.prog) (g := 1) (t := 3) (k := .i64) (zero := #[.int .i64 0]) hsh (of_decide_eq_true (by kernel_rfl)) (by kernel_rfl) rfl (by kernel_rfl) (by kernel_rfl) Tryd.underlying3
        exact ⟨m, (hs1.below.cell (World.block_lt_of_cell? W _ hm)).trans hm⟩
      cases hp
  have hval : ∀ (j : Nat) t v, Tryd.f8.params[j]? = some t → args[j]? = some v → Value.okWide Tryd.prog W .any base t v := hval0
  have hW' := hW
  obtain ⟨p, q, hA0, hV, rfl, hfz, hnd⟩ := hW
  have hA : DataW.TrodAll enc Tryd.prog W 0 (fun _ => true) true Tryd.f8.params.toList args.toList ds p := hA0
  rw [Tryd.params8] at hA hval
  obtain ⟨v0, vs0, d0, ds0, p0, q0, hargs, rfl, rfl, h0, r0⟩ := trodAll_cons hA
  obtain ⟨v1, vs1, d1, ds1, p1, q1, rfl, rfl, rfl, h1, r1⟩ := trodAll_cons r0
  obtain ⟨rfl, rfl, rfl⟩ := trodAll_nil r1
  obtain rfl : args = #[v0, v1] := by cases args; simp_all
  obtain ⟨rfl, rfl⟩ := trodVars_none hV
  obtain ⟨a0, rfl, rfl, rfl, w0⟩ := open_int Tryd.underlying5 (hval 0 5 v0 rfl rfl) h0
  have wn0 : 0 ≤ a0 ∧ a0 < 256 := by
    have h9 := w0
    have e1 : IntKind.u8.min = 0 := rfl
    have e2 : IntKind.u8.max = 255 := rfl
    simp only [Lit.wf, Bool.and_eq_true, decide_eq_true_eq, e1, e2] at h9
    omega
  obtain ⟨n0, rfl⟩ : ∃ n : Nat, a0 = (n : Int) := ⟨a0.toNat, by omega⟩
  obtain ⟨a1, rfl, rfl, rfl, w1⟩ := open_int Tryd.underlying5 (hval 1 5 v1 rfl rfl) h1
  have wn1 : 0 ≤ a1 ∧ a1 < 256 := by
    have h9 := w1
    have e1 : IntKind.u8.min = 0 := rfl
    have e2 : IntKind.u8.max = 255 := rfl
    simp only [Lit.wf, Bool.and_eq_true, decide_eq_true_eq, e1, e2] at h9
    omega
  obtain ⟨n1, rfl⟩ : ∃ n : Nat, a1 = (n : Int) := ⟨a1.toNat, by omega⟩
  clear hA0 hval0
  refine ((TapeLong_pure n0 (by omega) n1 (by omega)).calls (w := W) rfl ?_ hgl).mono fun e W' ⟨he, bel⟩ => ?_
  · intro i c u hc hu
    match i with
    | 0 => simp at hc hu; subst hc; subst hu; exact .v _
    | 1 => simp at hc hu; subst hc; subst hu; exact .v _
    | i + 2 => simp at hc
  subst he
  exact ⟨_, rfl, _, _, _, [], _, [], hW', trodAll_mk1 (shut_bool Tryd.underlying4 _), (trodAll_cons_mk (shut_int Tryd.underlying5 w0) (trodAll_cons_mk (shut_int Tryd.underlying5 w1) trodAll_mk0)), rfl, bel.frame _, fun h => by cases h⟩
theorem over : Rows.tapeLongRow.holds Tryd.pinned (OpenSpec.ofChange Rows.tapeLongSpec) :=
  OpenClaim.holds_of_wide 8 Tryd.f8 rfl rfl rfl rfl rfl rfl rfl ⟨rfl, rfl, rfl, rfl, rfl⟩ rfl rfl rfl rfl rfl (by kernel_rfl) Tryd.func8 (by kernel_rfl)
    (of_decide_eq_true (by kernel_rfl)) (by unfold Func.isWrapper; first | (rw [if_pos (by decide +kernel)]; kernel_rfl) | (rw [if_neg (by decide +kernel)]; exact ⟨rfl, rfl⟩))
    (fun os started H enc _ => lifted os started H enc)
end Go.Proofs.YtmepcmphcghbeaaDoor.tapeLong
namespace Go.Proofs.YtmepcmphcghbeaaDoor
theorem tapeLong_proved : Rows.TapeLongCardSaid :=
  Claim7.holds_tied_plain_at .later [] _ _ _ _ tapeLong.over (fun _ h => by cases h) (by kernel_rfl) (fun _ h => by cases h) tapeLong_row_tie rfl ⟨rfl, rfl⟩ (by kernel_rfl) rfl
    (fun f fn hf hfn => by
      obtain rfl : f = 8 := Option.some.inj ((show Tryd.prog.funcNamed "pangram/pangramlaw28.TapeLong" = some 8 by kernel_rfl).symm.trans hf) |>.symm
      obtain rfl : fn = Tryd.f8 := (Option.some.inj (Tryd.func8.symm.trans hfn)).symm
      refine ⟨by kernel_rfl, fun j t ht => ?_⟩
      rw [Tryd.params8] at ht
      have hm : t ∈ [5, 5] := by simpa using Array.mem_of_getElem? ht
      have hall : ([5, 5].all fun u => !Tryd.prog.wantsStandIn u) = true := by kernel_rfl
      have := List.all_eq_true.1 hall t hm
      have h9 : Tryd.prog.wantsStandIn t = false := by simpa using this
      exact h9)
    (by kernel_rfl)
#print axioms tapeLong_proved
end Go.Proofs.YtmepcmphcghbeaaDoor
namespace Go.Proofs.YtmepcmphcghbeaaDoor
theorem tapeB_proved : Rows.TapeWritesCardSaid ∧ Rows.TapeReadsCardSaid ∧ Rows.TapeLongCardSaid :=
  ⟨tapeWrites_proved, tapeReads_proved, tapeLong_proved⟩
end Go.Proofs.YtmepcmphcghbeaaDoor
