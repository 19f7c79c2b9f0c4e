/- Texts of the abstract walk, of the contracts and of the plain laws, packed (part 40 of 48): Tq1 Tq2 Tq3 Tq4 LsS Tq5 LsI Tq6 Tq7 TaL TbL. Conditions: none. -/
import Derived.Test.YtmepcmphcghbeaaDoorPk39
import Derived.Shelf.LaysM
import Derived.Shelf.LaysC
import Derived.Shelf.Strings.Cut
import Derived.Shelf.Strings.Search3
import Derived.Test.YtmepcmphcghbeaaDoorProg
import Derived.Shelf.Strconv.Itoa3
import Derived.Lib.ItoaLen
import Derived.Lib.AppendIntMem
import Derived.Lib.AtoiTie
import Derived.Lib.IndexMore
namespace Go.Proofs.YtmepcmphcghbeaaDoor
open Go Go.RowKit
set_option maxRecDepth 100000
set_option maxHeartbeats 4000000
set_option linter.unusedSimpArgs false
set_option linter.unnecessarySimpa false
set_option linter.unusedVariables false
attribute [local irreducible] aops dRun
theorem tk_succ {s : ByteArray} {k : Nat} (h : k < s.size) {c : UInt8} (hc : (s[k]?).getD 0 = c) : s.data.toList.take (k + 1) = s.data.toList.take k ++ [c] := by
  have h1 := byte_at h
  rw [hc] at h1
  rw [List.take_add_one, h1]; rfl
def tkQ (s : ByteArray) (k : Nat) : List UInt8 := 34 :: (s.data.toList.take k).flatMap qb
theorem tkQ_plain {s : ByteArray} {k : Nat} (h : k < s.size) {c : UInt8} (hc : (s[k]?).getD 0 = c) (hp : plainB c = true) : tkQ s (k + 1) = tkQ s k ++ [c] := by
  unfold tkQ
  rw [tk_succ h hc, List.flatMap_append, List.flatMap_cons, List.flatMap_nil, List.append_nil]
  unfold qb
  rw [if_pos hp]; rfl
theorem tkQ_told {s : ByteArray} {k : Nat} (h : k < s.size) {c : UInt8} (hc : (s[k]?).getD 0 = c) (hp : plainB c = false) : tkQ s (k + 1) = tkQ s k ++ [92, hx (c.toNat / 16), hx (c.toNat % 16)] := by
  unfold tkQ
  rw [tk_succ h hc, List.flatMap_append, List.flatMap_cons, List.flatMap_nil, List.append_nil]
  unfold qb
  rw [if_neg (by simp [hp])]; rfl
theorem tkQ_all {s : ByteArray} {k : Nat} (h : s.size ≤ k) : tkQ s k ++ [34] = quL s.data.toList := by
  unfold tkQ quL
  rw [List.take_of_length_le (by rw [Array.length_toList]; exact h)]; rfl
theorem tkQ_len (s : ByteArray) (k : Nat) : (tkQ s k).length ≤ 3 * k + 1 := by
  have h1 := quL_len (s.data.toList.take k)
  have h2 : (quL (s.data.toList.take k)).length = (tkQ s k).length + 1 := by simp [quL, tkQ]
  have h3 : (s.data.toList.take k).length ≤ k := List.length_take_le _ _
  omega
theorem not_plain {c : UInt8} (h : (c.toNat : Int) < 32 ∨ (c.toNat : Int) ≥ 127 ∨ (c.toNat : Int) = 34 ∨ (c.toNat : Int) = 92) : plainB c = false := by
  cases hp : plainB c with
  | false => rfl
  | true =>
    unfold plainB at hp
    simp only [Bool.and_eq_true, decide_eq_true_eq] at hp
    omega
theorem is_plain {c : UInt8} (h1 : ¬ (c.toNat : Int) < 32) (h2 : ¬ (c.toNat : Int) ≥ 127) (h3 : ¬ (c.toNat : Int) = 34) (h4 : ¬ (c.toNat : Int) = 92) : plainB c = true := by
  unfold plainB
  simp only [Bool.and_eq_true, decide_eq_true_eq]
  omega
theorem shr4 (c : UInt8) : iShr .u8 (c.toNat : Int) 4 = ((c.toNat / 16 : Nat) : Int) := by
  refine u8_nat (p := fun c => iShr .u8 (c.toNat : Int) 4 = ((c.toNat / 16 : Nat) : Int)) ?_ c
  decide +kernel
theorem and15 (c : UInt8) : iAnd .u8 (c.toNat : Int) 15 = ((c.toNat % 16 : Nat) : Int) := by
  refine u8_nat (p := fun c => iAnd .u8 (c.toNat : Int) 15 = ((c.toNat % 16 : Nat) : Int)) ?_ c
  decide +kernel
theorem tkQ_zero (s : ByteArray) : tkQ s 0 = [34] := rfl
theorem hex_at {n : Nat} (h : n < 16) : (((⟨#[48, 49, 50, 51, 52, 53, 54, 55, 56, 57, 97, 98, 99, 100, 101, 102]⟩ : ByteArray)[n]?).getD 0) = hx n := by
  have : ∀ k : Fin 16, (((⟨#[48, 49, 50, 51, 52, 53, 54, 55, 56, 57, 97, 98, 99, 100, 101, 102]⟩ : ByteArray)[k.val]?).getD 0) = hx k.val := by decide
  exact this ⟨n, h⟩
theorem cv_at (l : List UInt8) (c : UInt8) : bytesOf (l.map u8C ++ [[.v (.int .u8 (c.toNat : Int))]]) = some ((l ++ [c]).map fun c => (c.toNat : Int)) := by
  rw [← bytesOf_u8, List.map_append]; rfl
theorem Quote_pure (s : ByteArray) (hs : s.size ≤ 1048576) : APure Tryd.prog 10 [.v (.string s)] (.v (.string (ofL (quL s.data.toList)))) := by
  refine APure.mkL (.cons (.v _) .nil) (.v _) ?_
  refine ACalls_intro Tryd.func10 (by kernel_rfl) rfl (by rw [Tryd.ntmps10]; simp) (fun hm => ?_)
  simp only [Tryd.ntmps10, Tryd.results10, List.length_cons, List.length_nil, Nat.reduceAdd, Nat.reduceSub, List.replicate_succ, List.replicate_zero, List.cons_append, List.nil_append]
  refine AWp_seqK fun Y0 y0 => ?_
  refine AWp_region ?_
  simp only [↓bO, go_sem, seval]
  refine y0 _ ?_
  try clear y0 Y0
  refine AWp_seqK fun Y0 y0 => ?_
  refine AWp_midK 0 [_] [_] rfl fun Q0 q0 => ?_
  simp only [bL, aops]
  refine q0 _ ?_
  clear q0 Q0
  refine MidAt_lit ei50 (by decide) rfl (by decide) (by intro p hp; simp at hp; subst hp; exact ⟨rfl, rfl⟩) ?_
  simp only [putO, bS, bA, tyX]
  simp only [↓bO, go_sem, seval]
  refine y0 _ ?_
  try clear y0 Y0
  refine AWp_seqK fun Y0 y0 => ?_
  refine AWp_seqK fun Y1 y1 => ?_
  refine AWp_region ?_
  simp only [↓bO, go_sem, seval]
  refine y1 _ ?_
  try clear y1 Y1
  refine AWp_block ?_
  refine AWp_loopM (σ := Nat) (mB 47 25) (fun k => k ≤ s.size) (fun k => [(3, .osl 0 1 ((tkQ s k).map u8C)), (4, .v (.int .i64 (k : Int)))]) (fun k => [(0, .tok 5 1 (tkQ s k).length)]) (fun k => s.size - k) 0 (by omega) ?_ (fun k hk => ?_)
  ·
   try simp only [maskL, setsL, putsO, putO, mB, List.set_cons_zero, List.set_cons_succ, seval, tkQ_zero, u8C, bL]
   exact Weak.mk (by simp only [go_sem, Le.refl, Le.any, Le.slNil, Int.natCast_add, Int.cast_ofNat_Int, Int.natCast_one]) (fun _ _ h => h) rfl rfl
  simp only [maskL, setsL, putsO, putO, mB, List.set_cons_zero, List.set_cons_succ, seval]
  have hql := tkQ_len s k
  have hb1 : ((tkQ s k).length + 1) * 1 ≤ 140737488355328 := by omega
  have hb2 : (tkQ s k).length + 1 ≤ maxLen := by (simp only [maxLen]; omega)
  have hb3 : ((tkQ s k).length + 3) * 1 ≤ 140737488355328 := by omega
  have hb4 : (tkQ s k).length + 3 ≤ maxLen := by (simp only [maxLen]; omega)
  have hb5 : (tkQ s k).length ≤ 140737488355325 := by omega
  have hb6 : (tkQ s k).length ≤ 140737488355327 := by omega
  refine AWp_seqK fun Y1 y1 => ?_
  refine AWp_seqK fun Y2 y2 => ?_
  refine AWp_region ?_
  iterate 3 (refine aops_chunk 1 fun Q0 q0 => ?_; simp only [↓bO, go_sem, seval, hb1, hb2, hb3, hb4, hb5, hb6, List.map_append, List.length_append, u8C, shr4, and15]; refine q0 _ ?_; clear q0 Q0; simp only [go_sem])
  simp only [↓bO, go_sem, seval, hb1, hb2, hb3, hb4, hb5, hb6, List.map_append, List.length_append, u8C, shr4, and15]
  refine y2 _ ?_
  try clear y2 Y2
  refine AWp_cond rfl (fun hb10 => ?_) (fun hb10 => ?_)
  ·
   have hlt : k < s.size := by simpa using hb10
   obtain ⟨c, hc⟩ : ∃ c, (s[k]?).getD 0 = c := ⟨_, rfl⟩
   have hlc := c.toNat_lt
   have hwk : IntKind.i64.wrap ((k : Int) + 1) = ((k + 1 : Nat) : Int) := by (rw [wrap_in (by omega) (by omega)]; omega)
   have hx1 := hex_at (n := c.toNat / 16) (by omega)
   have hx2 := hex_at (n := c.toNat % 16) (by omega)
   have hl1 : (c.toNat / 16 < (#[48, 49, 50, 51, 52, 53, 54, 55, 56, 57, 97, 98, 99, 100, 101, 102] : Array UInt8).size) = True := eq_true (by (show c.toNat / 16 < 16); omega)
   have hl2 : (c.toNat % 16 < (#[48, 49, 50, 51, 52, 53, 54, 55, 56, 57, 97, 98, 99, 100, 101, 102] : Array UInt8).size) = True := eq_true (by (show c.toNat % 16 < 16); omega)
   refine AWp_skip ?_
   try simp only [thenQ, blockQ, noGotoQ]
   refine y1 _ ?_
   try clear y1 Y1
   refine AWp_seqK fun Y1 y1 => ?_
   refine AWp_block ?_
   refine AWp_seqK fun Y2 y2 => ?_
   refine AWp_region ?_
   iterate 3 (refine aops_chunk 1 fun Q0 q0 => ?_; simp only [↓bO, go_sem, seval, hb1, hb2, hb3, hb4, hb5, hb6, List.map_append, List.length_append, u8C, shr4, and15, hlt, hc, hwk, hx1, hx2, hl1, hl2]; refine q0 _ ?_; clear q0 Q0; simp only [go_sem])
   simp only [↓bO, go_sem, seval, hb1, hb2, hb3, hb4, hb5, hb6, List.map_append, List.length_append, u8C, shr4, and15, hlt, hc, hwk, hx1, hx2, hl1, hl2]
   refine y2 _ ?_
   try clear y2 Y2
   refine AWp_seqK fun Y2 y2 => ?_
   refine AWp_region ?_
   iterate 3 (refine aops_chunk 1 fun Q0 q0 => ?_; simp only [↓bO, go_sem, seval, hb1, hb2, hb3, hb4, hb5, hb6, List.map_append, List.length_append, u8C, shr4, and15, hlt, hc, hwk, hx1, hx2, hl1, hl2]; refine q0 _ ?_; clear q0 Q0; simp only [go_sem])
   refine aops_case 18 rfl (fun hc18 => ?_) (fun hc18 => ?_)
   ·
    simp only [List.set_cons_zero, List.set_cons_succ]
    have hnp : plainB c = false := not_plain (.inl (by simpa using hc18))
    have hnx := tkQ_told hlt hc hnp
    iterate 10 (refine aops_chunk 1 fun Q0 q0 => ?_; simp only [↓bO, go_sem, seval, hb1, hb2, hb3, hb4, hb5, hb6, List.map_append, List.length_append, u8C, shr4, and15, hlt, hc, hwk, hx1, hx2, hl1, hl2, hnx]; refine q0 _ ?_; clear q0 Q0; simp only [go_sem])
    simp only [↓bO, go_sem, seval, hb1, hb2, hb3, hb4, hb5, hb6, List.map_append, List.length_append, u8C, shr4, and15, hlt, hc, hwk, hx1, hx2, hl1, hl2, hnx]
    refine y2 _ ?_
    try clear y2 Y2
    refine AWp_cond (b := true) (by first | exact rfl | exact congrArg (fun b => AV.v (.bool b)) hb29) (fun _ => ?_) (fun h => (by cases h))
    refine AWp_drawK 8 mixed (by kernel_rfl) fun J0 j0 => ?_
    iterate 7 (simp only [go_sem]; refine dRun_chunk 1 fun Q0 q0 => ?_; simp only [↓dRun, ↓dOp, ↓bO, go_sem, seval, hb1, hb2, hb3, hb4, hb5, hb6, List.map_append, List.length_append, u8C, shr4, and15, hlt, hc, hwk, hx1, hx2, hl1, hl2, hnx]; refine q0 _ ?_; clear q0 Q0)
    simp only [go_sem]
    simp only [↓dRun, ↓dOp, ↓bO, go_sem, seval, ↓bs3_1, ↓bs3_2, ↓bs3_3, ↓bs3_4, ↓bs3_5, ↓bs3_6, ↓bs3_7, ↓bs3_8, ↓bs3_9, ↓bs3_10, ↓bs3_11, ↓bs3_12, hb1, hb2, hb3, hb4, hb5, hb6, List.map_append, List.length_append, u8C, shr4, and15, hlt, hc, hwk, hx1, hx2, hl1, hl2, hnx]
    refine j0 _ ?_
    clear j0 J0
    simp only [go_sem]
    refine aops_chunk 1 fun Q0 q0 => ?_
    simp only [↓bO, go_sem, seval, hb1, hb2, hb3, hb4, hb5, hb6, List.map_append, List.length_append, u8C, shr4, and15, hlt, hc, hwk, hx1, hx2, hl1, hl2, hnx]
    refine q0 _ ?_
    clear q0 Q0
    simp only [go_sem]
    simp only [↓bO, go_sem, seval, hb1, hb2, hb3, hb4, hb5, hb6, List.map_append, List.length_append, u8C, shr4, and15, hlt, hc, hwk, hx1, hx2, hl1, hl2, hnx]
    refine y1 _ ?_
    try clear y1 Y1
    refine AWp_region ?_
    iterate 2 (refine aops_chunk 1 fun Q0 q0 => ?_; simp only [↓bO, go_sem, seval, hb1, hb2, hb3, hb4, hb5, hb6, List.map_append, List.length_append, u8C, shr4, and15, hlt, hc, hwk, hx1, hx2, hl1, hl2, hnx]; refine q0 _ ?_; clear q0 Q0; simp only [go_sem])
    simp only [↓bO, go_sem, seval, hb1, hb2, hb3, hb4, hb5, hb6, List.map_append, List.length_append, u8C, shr4, and15, hlt, hc, hwk, hx1, hx2, hl1, hl2, hnx]
    refine ⟨(k + 1), (by omega), by omega, ?_⟩
    try simp only [maskL, setsL, putsO, putO, mB, List.set_cons_zero, List.set_cons_succ, seval, hb1, hb2, hb3, hb4, hb5, hb6, List.map_append, bL, List.length_append, u8C, shr4, and15, hlt, hc, hwk, hx1, hx2, hl1, hl2, hnx]
    exact Weak.mk (by simp only [go_sem, Le.refl, Le.any, Le.slNil, Int.natCast_add, Int.cast_ofNat_Int, Int.natCast_one]) (fun _ _ h => h) rfl rfl
   ·
    simp only [List.set_cons_zero, List.set_cons_succ]
    have h1 : ¬ (c.toNat : Int) < 32 := by simpa using hc18
    iterate 4 (refine aops_chunk 1 fun Q0 q0 => ?_; simp only [↓bO, go_sem, seval, hb1, hb2, hb3, hb4, hb5, hb6, List.map_append, List.length_append, u8C, shr4, and15, hlt, hc, hwk, hx1, hx2, hl1, hl2]; refine q0 _ ?_; clear q0 Q0; simp only [go_sem])
    refine aops_case 22 rfl (fun hc22 => ?_) (fun hc22 => ?_)
    ·
     simp only [List.set_cons_zero, List.set_cons_succ]
     have hnp : plainB c = false := not_plain (.inr (.inl (by simpa using hc22)))
     have hnx := tkQ_told hlt hc hnp
     iterate 6 (refine aops_chunk 1 fun Q0 q0 => ?_; simp only [↓bO, go_sem, seval, hb1, hb2, hb3, hb4, hb5, hb6, List.map_append, List.length_append, u8C, shr4, and15, hlt, hc, hwk, hx1, hx2, hl1, hl2, hnx]; refine q0 _ ?_; clear q0 Q0; simp only [go_sem])
     simp only [↓bO, go_sem, seval, hb1, hb2, hb3, hb4, hb5, hb6, List.map_append, List.length_append, u8C, shr4, and15, hlt, hc, hwk, hx1, hx2, hl1, hl2, hnx]
     refine y2 _ ?_
     try clear y2 Y2
     refine AWp_cond (b := true) (by first | exact rfl | exact congrArg (fun b => AV.v (.bool b)) hb29) (fun _ => ?_) (fun h => (by cases h))
     refine AWp_drawK 8 mixed (by kernel_rfl) fun J0 j0 => ?_
     iterate 7 (simp only [go_sem]; refine dRun_chunk 1 fun Q0 q0 => ?_; simp only [↓dRun, ↓dOp, ↓bO, go_sem, seval, hb1, hb2, hb3, hb4, hb5, hb6, List.map_append, List.length_append, u8C, shr4, and15, hlt, hc, hwk, hx1, hx2, hl1, hl2, hnx]; refine q0 _ ?_; clear q0 Q0)
     simp only [go_sem]
     simp only [↓dRun, ↓dOp, ↓bO, go_sem, seval, ↓bs3_1, ↓bs3_2, ↓bs3_3, ↓bs3_4, ↓bs3_5, ↓bs3_6, ↓bs3_7, ↓bs3_8, ↓bs3_9, ↓bs3_10, ↓bs3_11, ↓bs3_12, hb1, hb2, hb3, hb4, hb5, hb6, List.map_append, List.length_append, u8C, shr4, and15, hlt, hc, hwk, hx1, hx2, hl1, hl2, hnx]
     refine j0 _ ?_
     clear j0 J0
     simp only [go_sem]
     refine aops_chunk 1 fun Q0 q0 => ?_
     simp only [↓bO, go_sem, seval, hb1, hb2, hb3, hb4, hb5, hb6, List.map_append, List.length_append, u8C, shr4, and15, hlt, hc, hwk, hx1, hx2, hl1, hl2, hnx]
     refine q0 _ ?_
     clear q0 Q0
     simp only [go_sem]
     simp only [↓bO, go_sem, seval, hb1, hb2, hb3, hb4, hb5, hb6, List.map_append, List.length_append, u8C, shr4, and15, hlt, hc, hwk, hx1, hx2, hl1, hl2, hnx]
     refine y1 _ ?_
     try clear y1 Y1
     refine AWp_region ?_
     iterate 2 (refine aops_chunk 1 fun Q0 q0 => ?_; simp only [↓bO, go_sem, seval, hb1, hb2, hb3, hb4, hb5, hb6, List.map_append, List.length_append, u8C, shr4, and15, hlt, hc, hwk, hx1, hx2, hl1, hl2, hnx]; refine q0 _ ?_; clear q0 Q0; simp only [go_sem])
     simp only [↓bO, go_sem, seval, hb1, hb2, hb3, hb4, hb5, hb6, List.map_append, List.length_append, u8C, shr4, and15, hlt, hc, hwk, hx1, hx2, hl1, hl2, hnx]
     refine ⟨(k + 1), (by omega), by omega, ?_⟩
     try simp only [maskL, setsL, putsO, putO, mB, List.set_cons_zero, List.set_cons_succ, seval, hb1, hb2, hb3, hb4, hb5, hb6, List.map_append, bL, List.length_append, u8C, shr4, and15, hlt, hc, hwk, hx1, hx2, hl1, hl2, hnx]
     exact Weak.mk (by simp only [go_sem, Le.refl, Le.any, Le.slNil, Int.natCast_add, Int.cast_ofNat_Int, Int.natCast_one]) (fun _ _ h => h) rfl rfl
    ·
     simp only [List.set_cons_zero, List.set_cons_succ]
     have h2 : ¬ (c.toNat : Int) ≥ 127 := by simpa using hc22
     iterate 4 (refine aops_chunk 1 fun Q0 q0 => ?_; simp only [↓bO, go_sem, seval, hb1, hb2, hb3, hb4, hb5, hb6, List.map_append, List.length_append, u8C, shr4, and15, hlt, hc, hwk, hx1, hx2, hl1, hl2]; refine q0 _ ?_; clear q0 Q0; simp only [go_sem])
     refine aops_case 26 rfl (fun hc26 => ?_) (fun hc26 => ?_)
     ·
      simp only [List.set_cons_zero, List.set_cons_succ]
      have hnp : plainB c = false := not_plain (.inr (.inr (.inl (by simpa using hc26))))
      have hnx := tkQ_told hlt hc hnp
      iterate 2 (refine aops_chunk 1 fun Q0 q0 => ?_; simp only [↓bO, go_sem, seval, hb1, hb2, hb3, hb4, hb5, hb6, List.map_append, List.length_append, u8C, shr4, and15, hlt, hc, hwk, hx1, hx2, hl1, hl2, hnx]; refine q0 _ ?_; clear q0 Q0; simp only [go_sem])
      simp only [↓bO, go_sem, seval, hb1, hb2, hb3, hb4, hb5, hb6, List.map_append, List.length_append, u8C, shr4, and15, hlt, hc, hwk, hx1, hx2, hl1, hl2, hnx]
      refine y2 _ ?_
      try clear y2 Y2
      refine AWp_cond (b := true) (by first | exact rfl | exact congrArg (fun b => AV.v (.bool b)) hb29) (fun _ => ?_) (fun h => (by cases h))
      refine AWp_drawK 8 mixed (by kernel_rfl) fun J0 j0 => ?_
      iterate 7 (simp only [go_sem]; refine dRun_chunk 1 fun Q0 q0 => ?_; simp only [↓dRun, ↓dOp, ↓bO, go_sem, seval, hb1, hb2, hb3, hb4, hb5, hb6, List.map_append, List.length_append, u8C, shr4, and15, hlt, hc, hwk, hx1, hx2, hl1, hl2, hnx]; refine q0 _ ?_; clear q0 Q0)
      simp only [go_sem]
      simp only [↓dRun, ↓dOp, ↓bO, go_sem, seval, ↓bs3_1, ↓bs3_2, ↓bs3_3, ↓bs3_4, ↓bs3_5, ↓bs3_6, ↓bs3_7, ↓bs3_8, ↓bs3_9, ↓bs3_10, ↓bs3_11, ↓bs3_12, hb1, hb2, hb3, hb4, hb5, hb6, List.map_append, List.length_append, u8C, shr4, and15, hlt, hc, hwk, hx1, hx2, hl1, hl2, hnx]
      refine j0 _ ?_
      clear j0 J0
      simp only [go_sem]
      refine aops_chunk 1 fun Q0 q0 => ?_
      simp only [↓bO, go_sem, seval, hb1, hb2, hb3, hb4, hb5, hb6, List.map_append, List.length_append, u8C, shr4, and15, hlt, hc, hwk, hx1, hx2, hl1, hl2, hnx]
      refine q0 _ ?_
      clear q0 Q0
      simp only [go_sem]
      simp only [↓bO, go_sem, seval, hb1, hb2, hb3, hb4, hb5, hb6, List.map_append, List.length_append, u8C, shr4, and15, hlt, hc, hwk, hx1, hx2, hl1, hl2, hnx]
      refine y1 _ ?_
      try clear y1 Y1
      refine AWp_region ?_
      iterate 2 (refine aops_chunk 1 fun Q0 q0 => ?_; simp only [↓bO, go_sem, seval, hb1, hb2, hb3, hb4, hb5, hb6, List.map_append, List.length_append, u8C, shr4, and15, hlt, hc, hwk, hx1, hx2, hl1, hl2, hnx]; refine q0 _ ?_; clear q0 Q0; simp only [go_sem])
      simp only [↓bO, go_sem, seval, hb1, hb2, hb3, hb4, hb5, hb6, List.map_append, List.length_append, u8C, shr4, and15, hlt, hc, hwk, hx1, hx2, hl1, hl2, hnx]
      refine ⟨(k + 1), (by omega), by omega, ?_⟩
      try simp only [maskL, setsL, putsO, putO, mB, List.set_cons_zero, List.set_cons_succ, seval, hb1, hb2, hb3, hb4, hb5, hb6, List.map_append, bL, List.length_append, u8C, shr4, and15, hlt, hc, hwk, hx1, hx2, hl1, hl2, hnx]
      exact Weak.mk (by simp only [go_sem, Le.refl, Le.any, Le.slNil, Int.natCast_add, Int.cast_ofNat_Int, Int.natCast_one]) (fun _ _ h => h) rfl rfl
     ·
      simp only [List.set_cons_zero, List.set_cons_succ]
      have h3 : ¬ (c.toNat : Int) = 34 := by simpa using hc26
      iterate 2 (refine aops_chunk 1 fun Q0 q0 => ?_; simp only [↓bO, go_sem, seval, hb1, hb2, hb3, hb4, hb5, hb6, List.map_append, List.length_append, u8C, shr4, and15, hlt, hc, hwk, hx1, hx2, hl1, hl2]; refine q0 _ ?_; clear q0 Q0; simp only [go_sem])
      simp only [↓bO, go_sem, seval, hb1, hb2, hb3, hb4, hb5, hb6, List.map_append, List.length_append, u8C, shr4, and15, hlt, hc, hwk, hx1, hx2, hl1, hl2]
      refine y2 _ ?_
      try clear y2 Y2
      refine AWp_cond rfl (fun hb29 => ?_) (fun hb29 => ?_)
      ·
       have hnp : plainB c = false := not_plain (.inr (.inr (.inr (by simpa using hb29))))
       have hnx := tkQ_told hlt hc hnp
       refine AWp_drawK 8 mixed (by kernel_rfl) fun J0 j0 => ?_
       iterate 7 (simp only [go_sem]; refine dRun_chunk 1 fun Q0 q0 => ?_; simp only [↓dRun, ↓dOp, ↓bO, go_sem, seval, hb1, hb2, hb3, hb4, hb5, hb6, List.map_append, List.length_append, u8C, shr4, and15, hlt, hc, hwk, hx1, hx2, hl1, hl2, hnx]; refine q0 _ ?_; clear q0 Q0)
       simp only [go_sem]
       simp only [↓dRun, ↓dOp, ↓bO, go_sem, seval, ↓bs3_1, ↓bs3_2, ↓bs3_3, ↓bs3_4, ↓bs3_5, ↓bs3_6, ↓bs3_7, ↓bs3_8, ↓bs3_9, ↓bs3_10, ↓bs3_11, ↓bs3_12, hb1, hb2, hb3, hb4, hb5, hb6, List.map_append, List.length_append, u8C, shr4, and15, hlt, hc, hwk, hx1, hx2, hl1, hl2, hnx]
       refine j0 _ ?_
       clear j0 J0
       simp only [go_sem]
       refine aops_chunk 1 fun Q0 q0 => ?_
       simp only [↓bO, go_sem, seval, hb1, hb2, hb3, hb4, hb5, hb6, List.map_append, List.length_append, u8C, shr4, and15, hlt, hc, hwk, hx1, hx2, hl1, hl2, hnx]
       refine q0 _ ?_
       clear q0 Q0
       simp only [go_sem]
       simp only [↓bO, go_sem, seval, hb1, hb2, hb3, hb4, hb5, hb6, List.map_append, List.length_append, u8C, shr4, and15, hlt, hc, hwk, hx1, hx2, hl1, hl2, hnx]
       refine y1 _ ?_
       try clear y1 Y1
       refine AWp_region ?_
       iterate 2 (refine aops_chunk 1 fun Q0 q0 => ?_; simp only [↓bO, go_sem, seval, hb1, hb2, hb3, hb4, hb5, hb6, List.map_append, List.length_append, u8C, shr4, and15, hlt, hc, hwk, hx1, hx2, hl1, hl2, hnx]; refine q0 _ ?_; clear q0 Q0; simp only [go_sem])
       simp only [↓bO, go_sem, seval, hb1, hb2, hb3, hb4, hb5, hb6, List.map_append, List.length_append, u8C, shr4, and15, hlt, hc, hwk, hx1, hx2, hl1, hl2, hnx]
       refine ⟨(k + 1), (by omega), by omega, ?_⟩
       try simp only [maskL, setsL, putsO, putO, mB, List.set_cons_zero, List.set_cons_succ, seval, hb1, hb2, hb3, hb4, hb5, hb6, List.map_append, bL, List.length_append, u8C, shr4, and15, hlt, hc, hwk, hx1, hx2, hl1, hl2, hnx]
       exact Weak.mk (by simp only [go_sem, Le.refl, Le.any, Le.slNil, Int.natCast_add, Int.cast_ofNat_Int, Int.natCast_one]) (fun _ _ h => h) rfl rfl
      ·
       have hp := is_plain h1 h2 h3 (by simpa using hb29)
       have hnx := tkQ_plain hlt hc hp
       refine AWp_region ?_
       iterate 2 (refine aops_chunk 1 fun Q0 q0 => ?_; simp only [↓bO, go_sem, seval, hb1, hb2, hb3, hb4, hb5, hb6, List.map_append, List.length_append, u8C, shr4, and15, hlt, hc, hwk, hx1, hx2, hl1, hl2, hnx]; refine q0 _ ?_; clear q0 Q0; simp only [go_sem])
       refine aops_chunk 1 fun Q0 q0 => ?_
       simp only [↓bO, go_sem, seval, ↓bs1_1, ↓bs1_2, ↓bs1_3, ↓bs1_4, ↓bs1_5, ↓bs1_6, ↓bs1_7, ↓bs1_8, ↓bs1_9, ↓bs1_10, ↓bs1_11, ↓bs1_12, hb1, hb2, hb3, hb4, hb5, hb6, List.map_append, List.length_append, u8C, shr4, and15, hlt, hc, hwk, hx1, hx2, hl1, hl2, hnx]
       refine q0 _ ?_
       clear q0 Q0
       simp only [go_sem]
       refine aops_chunk 1 fun Q0 q0 => ?_
       simp only [↓bO, go_sem, seval, hb1, hb2, hb3, hb4, hb5, hb6, List.map_append, List.length_append, u8C, shr4, and15, hlt, hc, hwk, hx1, hx2, hl1, hl2, hnx]
       refine q0 _ ?_
       clear q0 Q0
       simp only [go_sem]
       simp only [↓bO, go_sem, seval, hb1, hb2, hb3, hb4, hb5, hb6, List.map_append, List.length_append, u8C, shr4, and15, hlt, hc, hwk, hx1, hx2, hl1, hl2, hnx]
       refine y1 _ ?_
       try clear y1 Y1
       refine AWp_region ?_
       iterate 2 (refine aops_chunk 1 fun Q0 q0 => ?_; simp only [↓bO, go_sem, seval, hb1, hb2, hb3, hb4, hb5, hb6, List.map_append, List.length_append, u8C, shr4, and15, hlt, hc, hwk, hx1, hx2, hl1, hl2, hnx]; refine q0 _ ?_; clear q0 Q0; simp only [go_sem])
       simp only [↓bO, go_sem, seval, hb1, hb2, hb3, hb4, hb5, hb6, List.map_append, List.length_append, u8C, shr4, and15, hlt, hc, hwk, hx1, hx2, hl1, hl2, hnx]
       refine ⟨(k + 1), (by omega), by omega, ?_⟩
       try simp only [maskL, setsL, putsO, putO, mB, List.set_cons_zero, List.set_cons_succ, seval, hb1, hb2, hb3, hb4, hb5, hb6, List.map_append, bL, List.length_append, u8C, shr4, and15, hlt, hc, hwk, hx1, hx2, hl1, hl2, hnx]
       exact Weak.mk (by simp only [go_sem, Le.refl, Le.any, Le.slNil, Int.natCast_add, Int.cast_ofNat_Int, Int.natCast_one]) (fun _ _ h => h) rfl rfl
  ·
   have hge : ¬ k < s.size := by simpa using hb10
   have hal := tkQ_all (s := s) (k := k) (by omega)
   have hcv := cv_at (tkQ s k) 34
   rw [hal] at hcv
   have hcv : bytesOf ((tkQ s k).map u8C ++ [[.v (.int .u8 34)]]) = _ := hcv
   refine AWp_exit ?_
   simp only [thenQ, blockQ, noGotoQ, bA, Nat.reduceEqDiff, ↓reduceIte]
   refine y0 _ ?_
   try clear y0 Y0
   refine AWp_seqK fun Y0 y0 => ?_
   refine AWp_region ?_
   refine aops_chunk 1 fun Q0 q0 => ?_
   simp only [↓bO, go_sem, seval, hcv, strOfNums_u8, hb1, hb2, hb5, hb6]
   refine q0 _ ?_
   clear q0 Q0
   simp only [go_sem]
   refine aops_chunk 1 fun Q0 q0 => ?_
   simp only [↓bO, go_sem, seval, ↓bs1_1, ↓bs1_2, ↓bs1_3, ↓bs1_4, ↓bs1_5, ↓bs1_6, ↓bs1_7, ↓bs1_8, ↓bs1_9, ↓bs1_10, ↓bs1_11, ↓bs1_12, hcv, strOfNums_u8, hb1, hb2, hb5, hb6]
   refine q0 _ ?_
   clear q0 Q0
   simp only [go_sem]
   refine aops_chunk 1 fun Q0 q0 => ?_
   simp only [↓bO, go_sem, seval, hcv, strOfNums_u8, hb1, hb2, hb5, hb6]
   refine q0 _ ?_
   clear q0 Q0
   simp only [go_sem]
   refine aops_chunk 1 fun Q0 q0 => ?_
   simp only [↓bO, go_sem, seval, aConvB, by50, hcv, strOfNums_u8, hb1, hb2, hb5, hb6]
   refine q0 _ ?_
   clear q0 Q0
   simp only [go_sem]
   simp only [↓bO, go_sem, seval, hcv, strOfNums_u8, hb1, hb2, hb5, hb6]
   refine y0 _ ?_
   try clear y0 Y0
   refine AWp_ret ?_
   try simp only [thenQ, blockQ, noGotoQ, retQ, aRes, tupOf, bS, bA]
   exact Le.refl _
def hexS : ByteArray := ⟨#[48, 49, 50, 51, 52, 53, 54, 55, 56, 57, 97, 98, 99, 100, 101, 102]⟩
theorem hex_ex {n : Nat} (h : n < 16) : hexS.extract n (n + 1) = ofL [hx n] := by
  have : ∀ k : Fin 16, hexS.extract k.val (k.val + 1) = ofL [hx k.val] := by decide
  exact this ⟨n, h⟩
theorem ex_one {s : ByteArray} {k : Nat} (h : k < s.size) {c : UInt8} (hc : (s[k]?).getD 0 = c) : s.extract k (k + 1) = ofL [c] := by
  have h1 := byte_at h
  rw [hc] at h1
  apply ByteArray.ext
  apply Array.ext'
  simp only [ByteArray.data_extract, Array.toList_extract, List.extract_eq_take_drop, ofL, Nat.add_sub_cancel_left]
  rw [List.take_one, List.head?_drop, h1]; rfl
theorem lit34 : (⟨#[34]⟩ : ByteArray) = ofL [34] := rfl
theorem app92 (l : List UInt8) : ofL l ++ (⟨#[92]⟩ : ByteArray) = ofL (l ++ [92]) := ofL_app l [92]
theorem app34 (l : List UInt8) : ofL l ++ (⟨#[34]⟩ : ByteArray) = ofL (l ++ [34]) := ofL_app l [34]
theorem RQuote_pure (s : ByteArray) (hs : s.size ≤ 1048576) : APure Tryd.prog 13 [.v (.string s)] (.v (.string (ofL (quL s.data.toList)))) := by
  refine APure.mkL (.cons (.v _) .nil) (.v _) ?_
  refine ACalls_intro Tryd.func13 (by kernel_rfl) rfl (by rw [Tryd.ntmps13]; simp) (fun hm => ?_)
  simp only [Tryd.ntmps13, Tryd.results13, List.length_cons, List.length_nil, Nat.reduceAdd, Nat.reduceSub, List.replicate_succ, List.replicate_zero, List.cons_append, List.nil_append]
  have hx0 : ∀ m, (⟨(#[48, 49, 50, 51, 52, 53, 54, 55, 56, 57, 97, 98, 99, 100, 101, 102] : Array UInt8)⟩ : ByteArray).extract m (m + 1) = hexS.extract m (m + 1) := fun m => rfl
  iterate 3 (refine AWp_seqK fun Y0 y0 => ?_; refine AWp_region ?_; simp only [↓bO, go_sem, seval]; refine y0 _ ?_; (try clear y0 Y0))
  refine AWp_seqK fun Y0 y0 => ?_
  refine AWp_seqK fun Y1 y1 => ?_
  refine AWp_region ?_
  simp only [↓bO, go_sem, seval]
  refine y1 _ ?_
  try clear y1 Y1
  refine AWp_block ?_
  refine AWp_loopM (σ := Nat) (mB 58 57) (fun k => k ≤ s.size) (fun k => [(4, .v (.string (ofL (tkQ s k)))), (5, .v (.int .i64 (k : Int)))]) (fun k => []) (fun k => s.size - k) 0 (by omega) ?_ (fun k hk => ?_)
  ·
   try simp only [maskL, setsL, putsO, putO, mB, List.set_cons_zero, List.set_cons_succ, seval, tkQ_zero, lit34]
   exact Weak.mk (by simp only [go_sem, Le.refl, Le.any, Le.slNil, Int.natCast_add, Int.cast_ofNat_Int, Int.natCast_one]) (fun _ _ h => h) rfl rfl
  simp only [maskL, setsL, putsO, putO, mB, List.set_cons_zero, List.set_cons_succ, seval]
  have hql := tkQ_len s k
  have hs1 : (((ofL (tkQ s k)).size + (#[92] : Array UInt8).size : Nat) : Int) ≤ IntKind.i64.max ↔ True := iff_true_intro (by (have g : (ofL (tkQ s k)).size + (#[92] : Array UInt8).size ≤ 3 * k + 4 := by (simp [ofL_size]; try omega)); (show (((ofL (tkQ s k)).size + (#[92] : Array UInt8).size : Nat) : Int) ≤ 9223372036854775807); omega)
  refine AWp_seqK fun Y1 y1 => ?_
  refine AWp_seqK fun Y2 y2 => ?_
  refine AWp_region ?_
  iterate 3 (refine aops_chunk 1 fun Q0 q0 => ?_; simp only [↓bO, go_sem, seval, hx0, ofL_app, app92, hs1, List.append_assoc]; refine q0 _ ?_; clear q0 Q0; simp only [go_sem])
  simp only [↓bO, go_sem, seval, hx0, ofL_app, app92, hs1, List.append_assoc]
  refine y2 _ ?_
  try clear y2 Y2
  refine AWp_cond rfl (fun hb10 => ?_) (fun hb10 => ?_)
  ·
   have hlt : k < s.size := by simpa using hb10
   obtain ⟨c, hc⟩ : ∃ c, (s[k]?).getD 0 = c := ⟨_, rfl⟩
   have hlc := c.toNat_lt
   have hwk : IntKind.i64.wrap ((k : Int) + 1) = ((k + 1 : Nat) : Int) := by (rw [wrap_in (by omega) (by omega)]; omega)
   have hwc : IntKind.i64.wrap ((c.toNat : Int)) = (c.toNat : Int) := by (rw [wrap_in (by omega) (by omega)])
   have ht : ((c.toNat : Int)).tdiv 16 = ((c.toNat / 16 : Nat) : Int) := by (rw [Int.tdiv_eq_ediv_of_nonneg (by omega)]; omega)
   have hm2 : ((c.toNat : Int)).tmod 16 = ((c.toNat % 16 : Nat) : Int) := by (rw [Int.tmod_eq_emod_of_nonneg (by omega)]; omega)
   have hw1 : IntKind.i64.wrap (((c.toNat / 16 : Nat) : Int)) = ((c.toNat / 16 : Nat) : Int) := by (rw [wrap_in (by omega) (by omega)])
   have hw2 : IntKind.i64.wrap (((c.toNat / 16 : Nat) : Int) + 1) = ((c.toNat / 16 + 1 : Nat) : Int) := by (rw [wrap_in (by omega) (by omega)]; omega)
   have hw3 : IntKind.i64.wrap (((c.toNat % 16 : Nat) : Int)) = ((c.toNat % 16 : Nat) : Int) := by (rw [wrap_in (by omega) (by omega)])
   have hw4 : IntKind.i64.wrap (((c.toNat % 16 : Nat) : Int) + 1) = ((c.toNat % 16 + 1 : Nat) : Int) := by (rw [wrap_in (by omega) (by omega)]; omega)
   have hx1 := hex_ex (n := c.toNat / 16) (by omega)
   have hx2 := hex_ex (n := c.toNat % 16) (by omega)
   have hx3 := ex_one hlt hc
   have hz1 : (((c.toNat / 16 + 1 : Nat) : Int) ≤ (((#[48, 49, 50, 51, 52, 53, 54, 55, 56, 57, 97, 98, 99, 100, 101, 102] : Array UInt8).size : Nat) : Int)) = True := eq_true (by (show ((c.toNat / 16 + 1 : Nat) : Int) ≤ 16); omega)
   have hz2 : (((c.toNat % 16 + 1 : Nat) : Int) ≤ (((#[48, 49, 50, 51, 52, 53, 54, 55, 56, 57, 97, 98, 99, 100, 101, 102] : Array UInt8).size : Nat) : Int)) = True := eq_true (by (show ((c.toNat % 16 + 1 : Nat) : Int) ≤ 16); omega)
   have hn1 : (((c.toNat / 16 : Nat) : Int) ≤ ((c.toNat / 16 + 1 : Nat) : Int)) = True := eq_true (by omega)
   have hn2 : (((c.toNat % 16 : Nat) : Int) ≤ ((c.toNat % 16 + 1 : Nat) : Int)) = True := eq_true (by omega)
   have hn3 : ((k : Int) ≤ ((k + 1 : Nat) : Int)) = True := eq_true (by omega)
   have hn4 : (((k + 1 : Nat) : Int) ≤ (s.size : Int)) = True := eq_true (by omega)
   have hs2 : (((ofL (tkQ s k ++ [92])).size + (ofL [hx (c.toNat / 16)]).size : Nat) : Int) ≤ IntKind.i64.max ↔ True := iff_true_intro (by (have g : (ofL (tkQ s k ++ [92])).size + (ofL [hx (c.toNat / 16)]).size ≤ 3 * k + 4 := by (simp [ofL_size]; try omega)); (show (((ofL (tkQ s k ++ [92])).size + (ofL [hx (c.toNat / 16)]).size : Nat) : Int) ≤ 9223372036854775807); omega)
   have hs3 : (((ofL (tkQ s k ++ [92, hx (c.toNat / 16)])).size + (ofL [hx (c.toNat % 16)]).size : Nat) : Int) ≤ IntKind.i64.max ↔ True := iff_true_intro (by (have g : (ofL (tkQ s k ++ [92, hx (c.toNat / 16)])).size + (ofL [hx (c.toNat % 16)]).size ≤ 3 * k + 4 := by (simp [ofL_size]; try omega)); (show (((ofL (tkQ s k ++ [92, hx (c.toNat / 16)])).size + (ofL [hx (c.toNat % 16)]).size : Nat) : Int) ≤ 9223372036854775807); omega)
   have hs4 : (((ofL (tkQ s k)).size + (ofL [c]).size : Nat) : Int) ≤ IntKind.i64.max ↔ True := iff_true_intro (by (have g : (ofL (tkQ s k)).size + (ofL [c]).size ≤ 3 * k + 4 := by (simp [ofL_size]; try omega)); (show (((ofL (tkQ s k)).size + (ofL [c]).size : Nat) : Int) ≤ 9223372036854775807); omega)
   refine AWp_skip ?_
   try simp only [thenQ, blockQ, noGotoQ]
   refine y1 _ ?_
   try clear y1 Y1
   refine AWp_seqK fun Y1 y1 => ?_
   refine AWp_block ?_
   refine AWp_seqK fun Y2 y2 => ?_
   refine AWp_region ?_
   iterate 4 (refine aops_chunk 1 fun Q0 q0 => ?_; simp only [↓bO, go_sem, seval, hx0, ofL_app, app92, hs1, List.append_assoc, hlt, hc, hwk, hwc, ht, hm2, hw1, hw2, hw3, hw4, hx1, hx2, hx3, hz1, hz2, hn1, hn2, hn3, hn4, hs2, hs3, hs4]; refine q0 _ ?_; clear q0 Q0; simp only [go_sem])
   simp only [↓bO, go_sem, seval, hx0, ofL_app, app92, hs1, List.append_assoc, hlt, hc, hwk, hwc, ht, hm2, hw1, hw2, hw3, hw4, hx1, hx2, hx3, hz1, hz2, hn1, hn2, hn3, hn4, hs2, hs3, hs4]
   refine y2 _ ?_
   try clear y2 Y2
   refine AWp_seqK fun Y2 y2 => ?_
   refine AWp_region ?_
   iterate 3 (refine aops_chunk 1 fun Q0 q0 => ?_; simp only [↓bO, go_sem, seval, hx0, ofL_app, app92, hs1, List.append_assoc, hlt, hc, hwk, hwc, ht, hm2, hw1, hw2, hw3, hw4, hx1, hx2, hx3, hz1, hz2, hn1, hn2, hn3, hn4, hs2, hs3, hs4]; refine q0 _ ?_; clear q0 Q0; simp only [go_sem])
   refine aops_case 19 rfl (fun hc19 => ?_) (fun hc19 => ?_)
   ·
    simp only [List.set_cons_zero, List.set_cons_succ]
    have hnp : plainB c = false := not_plain (.inl (by simpa using hc19))
    have hnx := tkQ_told hlt hc hnp
    iterate 10 (refine aops_chunk 1 fun Q0 q0 => ?_; simp only [↓bO, go_sem, seval, hx0, ofL_app, app92, hs1, List.append_assoc, hlt, hc, hwk, hwc, ht, hm2, hw1, hw2, hw3, hw4, hx1, hx2, hx3, hz1, hz2, hn1, hn2, hn3, hn4, hs2, hs3, hs4, hnx]; refine q0 _ ?_; clear q0 Q0; simp only [go_sem])
    simp only [↓bO, go_sem, seval, hx0, ofL_app, app92, hs1, List.append_assoc, hlt, hc, hwk, hwc, ht, hm2, hw1, hw2, hw3, hw4, hx1, hx2, hx3, hz1, hz2, hn1, hn2, hn3, hn4, hs2, hs3, hs4, hnx]
    refine y2 _ ?_
    try clear y2 Y2
    refine AWp_cond (b := true) (by first | exact rfl | exact congrArg (fun b => AV.v (.bool b)) hb30) (fun _ => ?_) (fun h => (by cases h))
    refine AWp_drawK 18 mixed (by kernel_rfl) fun J0 j0 => ?_
    iterate 17 (simp only [go_sem]; refine dRun_chunk 1 fun Q0 q0 => ?_; simp only [↓dRun, ↓dOp, ↓bO, go_sem, seval, hx0, ofL_app, app92, hs1, List.append_assoc, hlt, hc, hwk, hwc, ht, hm2, hw1, hw2, hw3, hw4, hx1, hx2, hx3, hz1, hz2, hn1, hn2, hn3, hn4, hs2, hs3, hs4, hnx]; refine q0 _ ?_; clear q0 Q0)
    simp only [go_sem]
    simp only [↓dRun, ↓dOp, ↓bO, go_sem, seval, hx0, ofL_app, app92, hs1, List.append_assoc, hlt, hc, hwk, hwc, ht, hm2, hw1, hw2, hw3, hw4, hx1, hx2, hx3, hz1, hz2, hn1, hn2, hn3, hn4, hs2, hs3, hs4, hnx]
    refine j0 _ ?_
    clear j0 J0
    simp only [go_sem]
    simp only [↓bO, go_sem, seval, hx0, ofL_app, app92, hs1, List.append_assoc, hlt, hc, hwk, hwc, ht, hm2, hw1, hw2, hw3, hw4, hx1, hx2, hx3, hz1, hz2, hn1, hn2, hn3, hn4, hs2, hs3, hs4, hnx]
    refine y1 _ ?_
    try clear y1 Y1
    refine AWp_region ?_
    iterate 2 (refine aops_chunk 1 fun Q0 q0 => ?_; simp only [↓bO, go_sem, seval, hx0, ofL_app, app92, hs1, List.append_assoc, hlt, hc, hwk, hwc, ht, hm2, hw1, hw2, hw3, hw4, hx1, hx2, hx3, hz1, hz2, hn1, hn2, hn3, hn4, hs2, hs3, hs4, hnx]; refine q0 _ ?_; clear q0 Q0; simp only [go_sem])
    simp only [↓bO, go_sem, seval, hx0, ofL_app, app92, hs1, List.append_assoc, hlt, hc, hwk, hwc, ht, hm2, hw1, hw2, hw3, hw4, hx1, hx2, hx3, hz1, hz2, hn1, hn2, hn3, hn4, hs2, hs3, hs4, hnx]
    refine ⟨(k + 1), (by omega), by omega, ?_⟩
    try simp only [maskL, setsL, putsO, putO, mB, List.set_cons_zero, List.set_cons_succ, seval, hx0, ofL_app, app92, hs1, List.append_assoc, bL, hlt, hc, hwk, hwc, ht, hm2, hw1, hw2, hw3, hw4, hx1, hx2, hx3, hz1, hz2, hn1, hn2, hn3, hn4, hs2, hs3, hs4, hnx]
    exact Weak.mk (by simp only [go_sem, Le.refl, Le.any, Le.slNil, Int.natCast_add, Int.cast_ofNat_Int, Int.natCast_one]) (fun _ _ h => h) rfl rfl
   ·
    simp only [List.set_cons_zero, List.set_cons_succ]
    have h1 : ¬ (c.toNat : Int) < 32 := by simpa using hc19
    iterate 4 (refine aops_chunk 1 fun Q0 q0 => ?_; simp only [↓bO, go_sem, seval, hx0, ofL_app, app92, hs1, List.append_assoc, hlt, hc, hwk, hwc, ht, hm2, hw1, hw2, hw3, hw4, hx1, hx2, hx3, hz1, hz2, hn1, hn2, hn3, hn4, hs2, hs3, hs4]; refine q0 _ ?_; clear q0 Q0; simp only [go_sem])
    refine aops_case 23 rfl (fun hc23 => ?_) (fun hc23 => ?_)
    ·
     simp only [List.set_cons_zero, List.set_cons_succ]
     have hnp : plainB c = false := not_plain (.inr (.inl (by (have h9 := hc23; simp at h9; omega))))
     have hnx := tkQ_told hlt hc hnp
     iterate 6 (refine aops_chunk 1 fun Q0 q0 => ?_; simp only [↓bO, go_sem, seval, hx0, ofL_app, app92, hs1, List.append_assoc, hlt, hc, hwk, hwc, ht, hm2, hw1, hw2, hw3, hw4, hx1, hx2, hx3, hz1, hz2, hn1, hn2, hn3, hn4, hs2, hs3, hs4, hnx]; refine q0 _ ?_; clear q0 Q0; simp only [go_sem])
     simp only [↓bO, go_sem, seval, hx0, ofL_app, app92, hs1, List.append_assoc, hlt, hc, hwk, hwc, ht, hm2, hw1, hw2, hw3, hw4, hx1, hx2, hx3, hz1, hz2, hn1, hn2, hn3, hn4, hs2, hs3, hs4, hnx]
     refine y2 _ ?_
     try clear y2 Y2
     refine AWp_cond (b := true) (by first | exact rfl | exact congrArg (fun b => AV.v (.bool b)) hb30) (fun _ => ?_) (fun h => (by cases h))
     refine AWp_drawK 18 mixed (by kernel_rfl) fun J0 j0 => ?_
     iterate 17 (simp only [go_sem]; refine dRun_chunk 1 fun Q0 q0 => ?_; simp only [↓dRun, ↓dOp, ↓bO, go_sem, seval, hx0, ofL_app, app92, hs1, List.append_assoc, hlt, hc, hwk, hwc, ht, hm2, hw1, hw2, hw3, hw4, hx1, hx2, hx3, hz1, hz2, hn1, hn2, hn3, hn4, hs2, hs3, hs4, hnx]; refine q0 _ ?_; clear q0 Q0)
     simp only [go_sem]
     simp only [↓dRun, ↓dOp, ↓bO, go_sem, seval, hx0, ofL_app, app92, hs1, List.append_assoc, hlt, hc, hwk, hwc, ht, hm2, hw1, hw2, hw3, hw4, hx1, hx2, hx3, hz1, hz2, hn1, hn2, hn3, hn4, hs2, hs3, hs4, hnx]
     refine j0 _ ?_
     clear j0 J0
     simp only [go_sem]
     simp only [↓bO, go_sem, seval, hx0, ofL_app, app92, hs1, List.append_assoc, hlt, hc, hwk, hwc, ht, hm2, hw1, hw2, hw3, hw4, hx1, hx2, hx3, hz1, hz2, hn1, hn2, hn3, hn4, hs2, hs3, hs4, hnx]
     refine y1 _ ?_
     try clear y1 Y1
     refine AWp_region ?_
     iterate 2 (refine aops_chunk 1 fun Q0 q0 => ?_; simp only [↓bO, go_sem, seval, hx0, ofL_app, app92, hs1, List.append_assoc, hlt, hc, hwk, hwc, ht, hm2, hw1, hw2, hw3, hw4, hx1, hx2, hx3, hz1, hz2, hn1, hn2, hn3, hn4, hs2, hs3, hs4, hnx]; refine q0 _ ?_; clear q0 Q0; simp only [go_sem])
     simp only [↓bO, go_sem, seval, hx0, ofL_app, app92, hs1, List.append_assoc, hlt, hc, hwk, hwc, ht, hm2, hw1, hw2, hw3, hw4, hx1, hx2, hx3, hz1, hz2, hn1, hn2, hn3, hn4, hs2, hs3, hs4, hnx]
     refine ⟨(k + 1), (by omega), by omega, ?_⟩
     try simp only [maskL, setsL, putsO, putO, mB, List.set_cons_zero, List.set_cons_succ, seval, hx0, ofL_app, app92, hs1, List.append_assoc, bL, hlt, hc, hwk, hwc, ht, hm2, hw1, hw2, hw3, hw4, hx1, hx2, hx3, hz1, hz2, hn1, hn2, hn3, hn4, hs2, hs3, hs4, hnx]
     exact Weak.mk (by simp only [go_sem, Le.refl, Le.any, Le.slNil, Int.natCast_add, Int.cast_ofNat_Int, Int.natCast_one]) (fun _ _ h => h) rfl rfl
    ·
     simp only [List.set_cons_zero, List.set_cons_succ]
     have h2 : ¬ (c.toNat : Int) ≥ 127 := by (have h9 := hc23; simp at h9; omega)
     iterate 4 (refine aops_chunk 1 fun Q0 q0 => ?_; simp only [↓bO, go_sem, seval, hx0, ofL_app, app92, hs1, List.append_assoc, hlt, hc, hwk, hwc, ht, hm2, hw1, hw2, hw3, hw4, hx1, hx2, hx3, hz1, hz2, hn1, hn2, hn3, hn4, hs2, hs3, hs4]; refine q0 _ ?_; clear q0 Q0; simp only [go_sem])
     refine aops_case 27 rfl (fun hc27 => ?_) (fun hc27 => ?_)
     ·
      simp only [List.set_cons_zero, List.set_cons_succ]
      have hnp : plainB c = false := not_plain (.inr (.inr (.inl (by simpa using hc27))))
      have hnx := tkQ_told hlt hc hnp
      iterate 2 (refine aops_chunk 1 fun Q0 q0 => ?_; simp only [↓bO, go_sem, seval, hx0, ofL_app, app92, hs1, List.append_assoc, hlt, hc, hwk, hwc, ht, hm2, hw1, hw2, hw3, hw4, hx1, hx2, hx3, hz1, hz2, hn1, hn2, hn3, hn4, hs2, hs3, hs4, hnx]; refine q0 _ ?_; clear q0 Q0; simp only [go_sem])
      simp only [↓bO, go_sem, seval, hx0, ofL_app, app92, hs1, List.append_assoc, hlt, hc, hwk, hwc, ht, hm2, hw1, hw2, hw3, hw4, hx1, hx2, hx3, hz1, hz2, hn1, hn2, hn3, hn4, hs2, hs3, hs4, hnx]
      refine y2 _ ?_
      try clear y2 Y2
      refine AWp_cond (b := true) (by first | exact rfl | exact congrArg (fun b => AV.v (.bool b)) hb30) (fun _ => ?_) (fun h => (by cases h))
      refine AWp_drawK 18 mixed (by kernel_rfl) fun J0 j0 => ?_
      iterate 17 (simp only [go_sem]; refine dRun_chunk 1 fun Q0 q0 => ?_; simp only [↓dRun, ↓dOp, ↓bO, go_sem, seval, hx0, ofL_app, app92, hs1, List.append_assoc, hlt, hc, hwk, hwc, ht, hm2, hw1, hw2, hw3, hw4, hx1, hx2, hx3, hz1, hz2, hn1, hn2, hn3, hn4, hs2, hs3, hs4, hnx]; refine q0 _ ?_; clear q0 Q0)
      simp only [go_sem]
      simp only [↓dRun, ↓dOp, ↓bO, go_sem, seval, hx0, ofL_app, app92, hs1, List.append_assoc, hlt, hc, hwk, hwc, ht, hm2, hw1, hw2, hw3, hw4, hx1, hx2, hx3, hz1, hz2, hn1, hn2, hn3, hn4, hs2, hs3, hs4, hnx]
      refine j0 _ ?_
      clear j0 J0
      simp only [go_sem]
      simp only [↓bO, go_sem, seval, hx0, ofL_app, app92, hs1, List.append_assoc, hlt, hc, hwk, hwc, ht, hm2, hw1, hw2, hw3, hw4, hx1, hx2, hx3, hz1, hz2, hn1, hn2, hn3, hn4, hs2, hs3, hs4, hnx]
      refine y1 _ ?_
      try clear y1 Y1
      refine AWp_region ?_
      iterate 2 (refine aops_chunk 1 fun Q0 q0 => ?_; simp only [↓bO, go_sem, seval, hx0, ofL_app, app92, hs1, List.append_assoc, hlt, hc, hwk, hwc, ht, hm2, hw1, hw2, hw3, hw4, hx1, hx2, hx3, hz1, hz2, hn1, hn2, hn3, hn4, hs2, hs3, hs4, hnx]; refine q0 _ ?_; clear q0 Q0; simp only [go_sem])
      simp only [↓bO, go_sem, seval, hx0, ofL_app, app92, hs1, List.append_assoc, hlt, hc, hwk, hwc, ht, hm2, hw1, hw2, hw3, hw4, hx1, hx2, hx3, hz1, hz2, hn1, hn2, hn3, hn4, hs2, hs3, hs4, hnx]
      refine ⟨(k + 1), (by omega), by omega, ?_⟩
      try simp only [maskL, setsL, putsO, putO, mB, List.set_cons_zero, List.set_cons_succ, seval, hx0, ofL_app, app92, hs1, List.append_assoc, bL, hlt, hc, hwk, hwc, ht, hm2, hw1, hw2, hw3, hw4, hx1, hx2, hx3, hz1, hz2, hn1, hn2, hn3, hn4, hs2, hs3, hs4, hnx]
      exact Weak.mk (by simp only [go_sem, Le.refl, Le.any, Le.slNil, Int.natCast_add, Int.cast_ofNat_Int, Int.natCast_one]) (fun _ _ h => h) rfl rfl
     ·
      simp only [List.set_cons_zero, List.set_cons_succ]
      have h3 : ¬ (c.toNat : Int) = 34 := by simpa using hc27
      iterate 2 (refine aops_chunk 1 fun Q0 q0 => ?_; simp only [↓bO, go_sem, seval, hx0, ofL_app, app92, hs1, List.append_assoc, hlt, hc, hwk, hwc, ht, hm2, hw1, hw2, hw3, hw4, hx1, hx2, hx3, hz1, hz2, hn1, hn2, hn3, hn4, hs2, hs3, hs4]; refine q0 _ ?_; clear q0 Q0; simp only [go_sem])
      simp only [↓bO, go_sem, seval, hx0, ofL_app, app92, hs1, List.append_assoc, hlt, hc, hwk, hwc, ht, hm2, hw1, hw2, hw3, hw4, hx1, hx2, hx3, hz1, hz2, hn1, hn2, hn3, hn4, hs2, hs3, hs4]
      refine y2 _ ?_
      try clear y2 Y2
      refine AWp_cond rfl (fun hb30 => ?_) (fun hb30 => ?_)
      ·
       have hnp : plainB c = false := not_plain (.inr (.inr (.inr (by simpa using hb30))))
       have hnx := tkQ_told hlt hc hnp
       refine AWp_drawK 18 mixed (by kernel_rfl) fun J0 j0 => ?_
       iterate 17 (simp only [go_sem]; refine dRun_chunk 1 fun Q0 q0 => ?_; simp only [↓dRun, ↓dOp, ↓bO, go_sem, seval, hx0, ofL_app, app92, hs1, List.append_assoc, hlt, hc, hwk, hwc, ht, hm2, hw1, hw2, hw3, hw4, hx1, hx2, hx3, hz1, hz2, hn1, hn2, hn3, hn4, hs2, hs3, hs4, hnx]; refine q0 _ ?_; clear q0 Q0)
       simp only [go_sem]
       simp only [↓dRun, ↓dOp, ↓bO, go_sem, seval, hx0, ofL_app, app92, hs1, List.append_assoc, hlt, hc, hwk, hwc, ht, hm2, hw1, hw2, hw3, hw4, hx1, hx2, hx3, hz1, hz2, hn1, hn2, hn3, hn4, hs2, hs3, hs4, hnx]
       refine j0 _ ?_
       clear j0 J0
       simp only [go_sem]
       simp only [↓bO, go_sem, seval, hx0, ofL_app, app92, hs1, List.append_assoc, hlt, hc, hwk, hwc, ht, hm2, hw1, hw2, hw3, hw4, hx1, hx2, hx3, hz1, hz2, hn1, hn2, hn3, hn4, hs2, hs3, hs4, hnx]
       refine y1 _ ?_
       try clear y1 Y1
       refine AWp_region ?_
       iterate 2 (refine aops_chunk 1 fun Q0 q0 => ?_; simp only [↓bO, go_sem, seval, hx0, ofL_app, app92, hs1, List.append_assoc, hlt, hc, hwk, hwc, ht, hm2, hw1, hw2, hw3, hw4, hx1, hx2, hx3, hz1, hz2, hn1, hn2, hn3, hn4, hs2, hs3, hs4, hnx]; refine q0 _ ?_; clear q0 Q0; simp only [go_sem])
       simp only [↓bO, go_sem, seval, hx0, ofL_app, app92, hs1, List.append_assoc, hlt, hc, hwk, hwc, ht, hm2, hw1, hw2, hw3, hw4, hx1, hx2, hx3, hz1, hz2, hn1, hn2, hn3, hn4, hs2, hs3, hs4, hnx]
       refine ⟨(k + 1), (by omega), by omega, ?_⟩
       try simp only [maskL, setsL, putsO, putO, mB, List.set_cons_zero, List.set_cons_succ, seval, hx0, ofL_app, app92, hs1, List.append_assoc, bL, hlt, hc, hwk, hwc, ht, hm2, hw1, hw2, hw3, hw4, hx1, hx2, hx3, hz1, hz2, hn1, hn2, hn3, hn4, hs2, hs3, hs4, hnx]
       exact Weak.mk (by simp only [go_sem, Le.refl, Le.any, Le.slNil, Int.natCast_add, Int.cast_ofNat_Int, Int.natCast_one]) (fun _ _ h => h) rfl rfl
      ·
       have hp := is_plain h1 h2 h3 (by simpa using hb30)
       have hnx := tkQ_plain hlt hc hp
       refine AWp_region ?_
       iterate 7 (refine aops_chunk 1 fun Q0 q0 => ?_; simp only [↓bO, go_sem, seval, hx0, ofL_app, app92, hs1, List.append_assoc, hlt, hc, hwk, hwc, ht, hm2, hw1, hw2, hw3, hw4, hx1, hx2, hx3, hz1, hz2, hn1, hn2, hn3, hn4, hs2, hs3, hs4, hnx]; refine q0 _ ?_; clear q0 Q0; simp only [go_sem])
       simp only [↓bO, go_sem, seval, hx0, ofL_app, app92, hs1, List.append_assoc, hlt, hc, hwk, hwc, ht, hm2, hw1, hw2, hw3, hw4, hx1, hx2, hx3, hz1, hz2, hn1, hn2, hn3, hn4, hs2, hs3, hs4, hnx]
       refine y1 _ ?_
       try clear y1 Y1
       refine AWp_region ?_
       iterate 2 (refine aops_chunk 1 fun Q0 q0 => ?_; simp only [↓bO, go_sem, seval, hx0, ofL_app, app92, hs1, List.append_assoc, hlt, hc, hwk, hwc, ht, hm2, hw1, hw2, hw3, hw4, hx1, hx2, hx3, hz1, hz2, hn1, hn2, hn3, hn4, hs2, hs3, hs4, hnx]; refine q0 _ ?_; clear q0 Q0; simp only [go_sem])
       simp only [↓bO, go_sem, seval, hx0, ofL_app, app92, hs1, List.append_assoc, hlt, hc, hwk, hwc, ht, hm2, hw1, hw2, hw3, hw4, hx1, hx2, hx3, hz1, hz2, hn1, hn2, hn3, hn4, hs2, hs3, hs4, hnx]
       refine ⟨(k + 1), (by omega), by omega, ?_⟩
       try simp only [maskL, setsL, putsO, putO, mB, List.set_cons_zero, List.set_cons_succ, seval, hx0, ofL_app, app92, hs1, List.append_assoc, bL, hlt, hc, hwk, hwc, ht, hm2, hw1, hw2, hw3, hw4, hx1, hx2, hx3, hz1, hz2, hn1, hn2, hn3, hn4, hs2, hs3, hs4, hnx]
       exact Weak.mk (by simp only [go_sem, Le.refl, Le.any, Le.slNil, Int.natCast_add, Int.cast_ofNat_Int, Int.natCast_one]) (fun _ _ h => h) rfl rfl
  ·
   have hge : ¬ k < s.size := by simpa using hb10
   have hs5 : (((ofL (tkQ s k)).size + (#[34] : Array UInt8).size : Nat) : Int) ≤ IntKind.i64.max ↔ True := iff_true_intro (by (have g : (ofL (tkQ s k)).size + (#[34] : Array UInt8).size ≤ 3 * k + 4 := by (simp [ofL_size]; try omega)); (show (((ofL (tkQ s k)).size + (#[34] : Array UInt8).size : Nat) : Int) ≤ 9223372036854775807); omega)
   have hal := tkQ_all (s := s) (k := k) (by omega)
   refine AWp_exit ?_
   simp only [thenQ, blockQ, noGotoQ, bA, Nat.reduceEqDiff, ↓reduceIte]
   refine y0 _ ?_
   try clear y0 Y0
   refine AWp_seqK fun Y0 y0 => ?_
   refine AWp_region ?_
   iterate 2 (refine aops_chunk 1 fun Q0 q0 => ?_; simp only [↓bO, go_sem, seval, hs5, app34, hal]; refine q0 _ ?_; clear q0 Q0; simp only [go_sem])
   simp only [↓bO, go_sem, seval, hs5, app34, hal]
   refine y0 _ ?_
   try clear y0 Y0
   refine AWp_ret ?_
   try simp only [thenQ, blockQ, noGotoQ, retQ, aRes, tupOf, bS, bA]
   exact Le.refl _
theorem Digit_pure (c : UInt8) : APure Tryd.prog 25 [.v (.int .u8 (c.toNat : Int))] (.v (.int .i64 (dg c))) := by
  refine APure.mkL (.cons (.v _) .nil) (.v _) ?_
  refine ACalls_intro Tryd.func25 (by kernel_rfl) rfl (by rw [Tryd.ntmps25]; simp) (fun hm => ?_)
  simp only [Tryd.ntmps25, Tryd.results25, List.length_cons, List.length_nil, Nat.reduceAdd, Nat.reduceSub, List.replicate_succ, List.replicate_zero, List.cons_append, List.nil_append]
  have hlc := c.toNat_lt
  have hwc : IntKind.i64.wrap ((c.toNat : Int)) = (c.toNat : Int) := by (rw [wrap_in (by omega) (by omega)])
  refine AWp_seqK fun Y0 y0 => ?_
  refine AWp_region ?_
  simp only [↓bO, go_sem, seval, hwc]
  refine y0 _ ?_
  try clear y0 Y0
  refine AWp_seqK fun Y0 y0 => ?_
  refine AWp_seqK fun Y1 y1 => ?_
  refine AWp_region ?_
  iterate 3 (refine aops_chunk 1 fun Q0 q0 => ?_; simp only [↓bO, go_sem, seval, hwc]; refine q0 _ ?_; clear q0 Q0; simp only [go_sem])
  refine aops_case 5 rfl (fun hc5 => ?_) (fun hc5 => ?_)
  ·
   simp only [List.set_cons_zero, List.set_cons_succ]
   have g1 : (c.toNat : Int) ≥ 48 := by simpa using hc5
   iterate 2 (refine aops_chunk 1 fun Q0 q0 => ?_; simp only [↓bO, go_sem, seval, hwc]; refine q0 _ ?_; clear q0 Q0; simp only [go_sem])
   simp only [↓bO, go_sem, seval, hwc]
   refine y1 _ ?_
   try clear y1 Y1
   refine AWp_cond rfl (fun hb8 => ?_) (fun hb8 => ?_)
   ·
    have g2 : (c.toNat : Int) ≤ 57 := by simpa using hb8
    have hw1 : IntKind.i64.wrap ((c.toNat : Int) - 48) = (c.toNat : Int) - 48 := by (rw [wrap_in (by omega) (by omega)])
    refine AWp_seqK fun Y1 y1 => ?_
    refine AWp_region ?_
    iterate 3 (refine aops_chunk 1 fun Q0 q0 => ?_; simp only [↓bO, go_sem, seval, hwc, hw1]; refine q0 _ ?_; clear q0 Q0; simp only [go_sem])
    simp only [↓bO, go_sem, seval, hwc, hw1]
    refine y1 _ ?_
    try clear y1 Y1
    refine AWp_ret ?_
    try simp only [thenQ, blockQ, noGotoQ, retQ, aRes, tupOf, bS, bA]
    refine Le.of_eq (congrArg (fun n => AV.v (.int .i64 n)) ?_)
    unfold dg
    rw [if_pos (by omega)]
   ·
    have g2 : ¬ (c.toNat : Int) ≤ 57 := by simpa using hb8
    refine AWp_skip ?_
    try simp only [thenQ, blockQ, noGotoQ]
    refine y0 _ ?_
    try clear y0 Y0
    refine AWp_seqK fun Y0 y0 => ?_
    refine AWp_seqK fun Y1 y1 => ?_
    refine AWp_region ?_
    iterate 3 (refine aops_chunk 1 fun Q0 q0 => ?_; simp only [↓bO, go_sem, seval, hwc]; refine q0 _ ?_; clear q0 Q0; simp only [go_sem])
    refine aops_case 14 rfl (fun hc14 => ?_) (fun hc14 => ?_)
    ·
     simp only [List.set_cons_zero, List.set_cons_succ]
     have g3 : (c.toNat : Int) ≥ 97 := by simpa using hc14
     iterate 2 (refine aops_chunk 1 fun Q0 q0 => ?_; simp only [↓bO, go_sem, seval, hwc]; refine q0 _ ?_; clear q0 Q0; simp only [go_sem])
     simp only [↓bO, go_sem, seval, hwc]
     refine y1 _ ?_
     try clear y1 Y1
     refine AWp_cond rfl (fun hb17 => ?_) (fun hb17 => ?_)
     ·
      have g4 : (c.toNat : Int) ≤ 102 := by simpa using hb17
      have hw2 : IntKind.i64.wrap ((c.toNat : Int) - 87) = (c.toNat : Int) - 87 := by (rw [wrap_in (by omega) (by omega)])
      refine AWp_seqK fun Y1 y1 => ?_
      refine AWp_region ?_
      iterate 3 (refine aops_chunk 1 fun Q0 q0 => ?_; simp only [↓bO, go_sem, seval, hwc, hw2]; refine q0 _ ?_; clear q0 Q0; simp only [go_sem])
      simp only [↓bO, go_sem, seval, hwc, hw2]
      refine y1 _ ?_
      try clear y1 Y1
      refine AWp_ret ?_
      try simp only [thenQ, blockQ, noGotoQ, retQ, aRes, tupOf, bS, bA]
      refine Le.of_eq (congrArg (fun n => AV.v (.int .i64 n)) ?_)
      unfold dg
      rw [if_neg (by omega), if_pos (by omega)]
     ·
      have g4 : ¬ (c.toNat : Int) ≤ 102 := by simpa using hb17
      refine AWp_skip ?_
      try simp only [thenQ, blockQ, noGotoQ]
      refine y0 _ ?_
      try clear y0 Y0
      refine AWp_seqK fun Y0 y0 => ?_
      refine AWp_region ?_
      simp only [↓bO, go_sem, seval, hwc]
      refine y0 _ ?_
      try clear y0 Y0
      refine AWp_ret ?_
      try simp only [thenQ, blockQ, noGotoQ, retQ, aRes, tupOf, bS, bA]
      refine Le.of_eq (congrArg (fun n => AV.v (.int .i64 n)) ?_)
      unfold dg
      rw [if_neg (by omega), if_neg (by omega)]
    ·
     simp only [List.set_cons_zero, List.set_cons_succ]
     have g3 : ¬ (c.toNat : Int) ≥ 97 := by simpa using hc14
     iterate 2 (refine aops_chunk 1 fun Q0 q0 => ?_; simp only [↓bO, go_sem, seval, hwc]; refine q0 _ ?_; clear q0 Q0; simp only [go_sem])
     simp only [↓bO, go_sem, seval, hwc]
     refine y1 _ ?_
     try clear y1 Y1
     refine AWp_cond (b := false) (by first | exact rfl | exact congrArg (fun b => AV.v (.bool b)) hb17) (fun h => (by cases h)) (fun _ => ?_)
     refine AWp_skip ?_
     try simp only [thenQ, blockQ, noGotoQ]
     refine y0 _ ?_
     try clear y0 Y0
     refine AWp_seqK fun Y0 y0 => ?_
     refine AWp_region ?_
     simp only [↓bO, go_sem, seval, hwc]
     refine y0 _ ?_
     try clear y0 Y0
     refine AWp_ret ?_
     try simp only [thenQ, blockQ, noGotoQ, retQ, aRes, tupOf, bS, bA]
     refine Le.of_eq (congrArg (fun n => AV.v (.int .i64 n)) ?_)
     unfold dg
     rw [if_neg (by omega), if_neg (by omega)]
  ·
   simp only [List.set_cons_zero, List.set_cons_succ]
   have g1 : ¬ (c.toNat : Int) ≥ 48 := by simpa using hc5
   iterate 2 (refine aops_chunk 1 fun Q0 q0 => ?_; simp only [↓bO, go_sem, seval, hwc]; refine q0 _ ?_; clear q0 Q0; simp only [go_sem])
   simp only [↓bO, go_sem, seval, hwc]
   refine y1 _ ?_
   try clear y1 Y1
   refine AWp_cond (b := false) (by first | exact rfl | exact congrArg (fun b => AV.v (.bool b)) hb8) (fun h => (by cases h)) (fun _ => ?_)
   refine AWp_skip ?_
   try simp only [thenQ, blockQ, noGotoQ]
   refine y0 _ ?_
   try clear y0 Y0
   refine AWp_seqK fun Y0 y0 => ?_
   refine AWp_seqK fun Y1 y1 => ?_
   refine AWp_region ?_
   iterate 3 (refine aops_chunk 1 fun Q0 q0 => ?_; simp only [↓bO, go_sem, seval, hwc]; refine q0 _ ?_; clear q0 Q0; simp only [go_sem])
   refine aops_case 14 rfl (fun hc14 => ?_) (fun hc14 => ?_)
   ·
    simp only [List.set_cons_zero, List.set_cons_succ]
    have g3 : (c.toNat : Int) ≥ 97 := by simpa using hc14
    iterate 2 (refine aops_chunk 1 fun Q0 q0 => ?_; simp only [↓bO, go_sem, seval, hwc]; refine q0 _ ?_; clear q0 Q0; simp only [go_sem])
    simp only [↓bO, go_sem, seval, hwc]
    refine y1 _ ?_
    try clear y1 Y1
    refine AWp_cond rfl (fun hb17 => ?_) (fun hb17 => ?_)
    ·
     have g4 : (c.toNat : Int) ≤ 102 := by simpa using hb17
     have hw2 : IntKind.i64.wrap ((c.toNat : Int) - 87) = (c.toNat : Int) - 87 := by (rw [wrap_in (by omega) (by omega)])
     refine AWp_seqK fun Y1 y1 => ?_
     refine AWp_region ?_
     iterate 3 (refine aops_chunk 1 fun Q0 q0 => ?_; simp only [↓bO, go_sem, seval, hwc, hw2]; refine q0 _ ?_; clear q0 Q0; simp only [go_sem])
     simp only [↓bO, go_sem, seval, hwc, hw2]
     refine y1 _ ?_
     try clear y1 Y1
     refine AWp_ret ?_
     try simp only [thenQ, blockQ, noGotoQ, retQ, aRes, tupOf, bS, bA]
     refine Le.of_eq (congrArg (fun n => AV.v (.int .i64 n)) ?_)
     unfold dg
     rw [if_neg (by omega), if_pos (by omega)]
    ·
     have g4 : ¬ (c.toNat : Int) ≤ 102 := by simpa using hb17
     refine AWp_skip ?_
     try simp only [thenQ, blockQ, noGotoQ]
     refine y0 _ ?_
     try clear y0 Y0
     refine AWp_seqK fun Y0 y0 => ?_
     refine AWp_region ?_
     simp only [↓bO, go_sem, seval, hwc]
     refine y0 _ ?_
     try clear y0 Y0
     refine AWp_ret ?_
     try simp only [thenQ, blockQ, noGotoQ, retQ, aRes, tupOf, bS, bA]
     refine Le.of_eq (congrArg (fun n => AV.v (.int .i64 n)) ?_)
     unfold dg
     rw [if_neg (by omega), if_neg (by omega)]
   ·
    simp only [List.set_cons_zero, List.set_cons_succ]
    have g3 : ¬ (c.toNat : Int) ≥ 97 := by simpa using hc14
    iterate 2 (refine aops_chunk 1 fun Q0 q0 => ?_; simp only [↓bO, go_sem, seval, hwc]; refine q0 _ ?_; clear q0 Q0; simp only [go_sem])
    simp only [↓bO, go_sem, seval, hwc]
    refine y1 _ ?_
    try clear y1 Y1
    refine AWp_cond (b := false) (by first | exact rfl | exact congrArg (fun b => AV.v (.bool b)) hb17) (fun h => (by cases h)) (fun _ => ?_)
    refine AWp_skip ?_
    try simp only [thenQ, blockQ, noGotoQ]
    refine y0 _ ?_
    try clear y0 Y0
    refine AWp_seqK fun Y0 y0 => ?_
    refine AWp_region ?_
    simp only [↓bO, go_sem, seval, hwc]
    refine y0 _ ?_
    try clear y0 Y0
    refine AWp_ret ?_
    try simp only [thenQ, blockQ, noGotoQ, retQ, aRes, tupOf, bS, bA]
    refine Le.of_eq (congrArg (fun n => AV.v (.int .i64 n)) ?_)
    unfold dg
    rw [if_neg (by omega), if_neg (by omega)]
theorem ix_dg (a : UInt8) : Lib.indexByte hexS.data.toList ((a.toNat : Int)).toNat.toUInt8 = dg a := by
  refine u8_nat (p := fun a => Lib.indexByte hexS.data.toList ((a.toNat : Int)).toNat.toUInt8 = dg a) ?_ a
  decide +kernel
theorem IxHex_pure (a : UInt8) : APure Tryd.prog 24 [.v (.string ⟨(#[48, 49, 50, 51, 52, 53, 54, 55, 56, 57, 97, 98, 99, 100, 101, 102] : Array UInt8)⟩), .v (.int .u8 (a.toNat : Int))] (.v (.int .i64 (dg a))) := by
  have h9 := IndexByte_pure hexS (a.toNat : Int)
  rw [ix_dg] at h9
  exact h9
theorem or_two (x y : Fin 16) : IntKind.u8.wrap (iOr .i64 (iShl .i64 ((x.val : Nat) : Int) 4) ((y.val : Nat) : Int)) = ((two (x.val : Int) (y.val : Int)).toNat : Int) := by
  revert x y; decide +kernel
theorem inn_len (s : ByteArray) : (innL s.data.toList).length = s.size - 2 := by
  unfold innL
  have h : s.data.toList.length = s.size := Array.length_toList
  rw [List.length_take, List.length_drop, h]; omega
theorem inn_at {s : ByteArray} {k : Nat} (h : k + 2 < s.size) {c : UInt8} (hc : (s[k + 1]?).getD 0 = c) : (innL s.data.toList).drop k = c :: (innL s.data.toList).drop (k + 1) := by
  have hl := inn_len s
  have h1 : (innL s.data.toList)[k]? = some c := by
    have h2 := byte_at (s := s) (i := k + 1) (by omega)
    unfold innL
    have h3 : s.data.toList.length = s.size := Array.length_toList
    rw [List.getElem?_take, if_pos (by omega), List.getElem?_drop, show 1 + k = k + 1 by omega, h2, hc]
  obtain ⟨h4, h5⟩ := List.getElem?_eq_some_iff.1 h1
  rw [List.drop_eq_getElem_cons h4, h5]
theorem prgD_one {c : UInt8} {r : List UInt8} (h : ¬ c.toNat = 92) : prgD (c :: r) = (prgD r).map (c :: ·) := by
  conv => lhs; unfold prgD
  rw [if_neg h]
theorem prgD_three {c a b : UInt8} {r : List UInt8} (h : c.toNat = 92) : prgD (c :: a :: b :: r) = (prgD r).map (two (max 0 (dg a)) (max 0 (dg b)) :: ·) := by
  conv => lhs; unfold prgD
  rw [if_pos h]
theorem prgD_short {c : UInt8} {r : List UInt8} (h : c.toNat = 92) (hr : r.length ≤ 1) : prgD (c :: r) = none := by
  unfold prgD
  rw [if_pos h]
  match r, hr with
  | [], _ => rfl
  | [_], _ => rfl
def PD (D : List UInt8 → Option (List UInt8)) (s : ByteArray) (k : Nat) (acc : List UInt8) : Prop := k + 2 ≤ s.size ∧ acc.length ≤ k ∧ D (innL s.data.toList) = (D ((innL s.data.toList).drop k)).map (acc ++ ·)
theorem PD.start {D : List UInt8 → Option (List UInt8)} {s : ByteArray} (h : 2 ≤ s.size) : PD D s 0 [] := ⟨by omega, by simp, by simp⟩
theorem PD.fin {D : List UInt8 → Option (List UInt8)} (hD : D [] = some []) {s : ByteArray} {k : Nat} {acc : List UInt8} (h : PD D s k acc) (hk : ¬ k + 2 < s.size) : D (innL s.data.toList) = some acc := by
  rw [h.2.2, List.drop_of_length_le (by rw [inn_len]; omega), hD]; simp
theorem PD.one {s : ByteArray} {k : Nat} {acc : List UInt8} (h : PD prgD s k acc) (hk : k + 2 < s.size) {c : UInt8} (hc : (s[k + 1]?).getD 0 = c) (hn : ¬ c.toNat = 92) : PD prgD s (k + 1) (acc ++ [c]) := by
  refine ⟨by omega, by have := h.2.1; simp; omega, ?_⟩
  rw [h.2.2, inn_at hk hc, prgD_one hn, Option.map_map]
  congr 1
  funext x; simp
theorem PD.bad {s : ByteArray} {k : Nat} {acc : List UInt8} (h : PD prgD s k acc) (hk : k + 2 < s.size) {c : UInt8} (hc : (s[k + 1]?).getD 0 = c) (hn : c.toNat = 92) (h4 : s.size ≤ k + 4) : prgD (innL s.data.toList) = none := by
  rw [h.2.2, inn_at hk hc, prgD_short hn (by rw [List.length_drop, inn_len]; omega)]; rfl
theorem PD.three {s : ByteArray} {k : Nat} {acc : List UInt8} (h : PD prgD s k acc) (hk : k + 4 < s.size) {c a b : UInt8} (hc : (s[k + 1]?).getD 0 = c) (hn : c.toNat = 92) (ha : (s[k + 2]?).getD 0 = a) (hb : (s[k + 3]?).getD 0 = b) :
    PD prgD s (k + 3) (acc ++ [two (max 0 (dg a)) (max 0 (dg b))]) := by
  refine ⟨by omega, by have := h.2.1; simp; omega, ?_⟩
  rw [h.2.2, inn_at (by omega) hc, inn_at (k := k + 1) (by omega) ha, inn_at (k := k + 2) (by omega) hb, prgD_three hn, Option.map_map]
  congr 1
  funext x; simp
def unqS (s : ByteArray) : ByteArray := ofL ((unqL s.data.toList).getD [])
def unqA (s : ByteArray) : AV := .tup [.v (.string (unqS s)), .v (.bool (unqL s.data.toList).isSome)]
theorem unqA_none {s : ByteArray} (h : unqL s.data.toList = none) : unqA s = .tup [.v (.string ByteArray.empty), .v (.bool false)] := by
  unfold unqA unqS; rw [h]; rfl
theorem unqA_some {s : ByteArray} {t : List UInt8} (h : unqL s.data.toList = some t) : unqA s = .tup [.v (.string (ofL t)), .v (.bool true)] := by
  unfold unqA unqS; rw [h]; rfl
theorem getD_at {s : ByteArray} {i : Nat} (h : i < s.size) : s.data.toList.getD i 0 = (s[i]?).getD 0 := by
  rw [List.getD_eq_getElem?_getD, byte_at h]; rfl
theorem unq_no {s : ByteArray} (h : s.size < 2 ∨ ¬ (((s[0]?).getD 0).toNat : Int) = 34 ∨ ¬ (((s[s.size - 1]?).getD 0).toNat : Int) = 34) : unqL s.data.toList = none := by
  unfold unqL
  have hl : s.data.toList.length = s.size := Array.length_toList
  refine if_neg ?_
  rintro ⟨h1, h2, h3⟩
  rw [hl] at h1 h3
  rw [getD_at (by omega)] at h2 h3
  rcases h with h | h | h
  · omega
  · rw [h2] at h; exact h (by decide)
  · rw [h3] at h; exact h (by decide)
theorem unq_fr {s : ByteArray} (h1 : 2 ≤ s.size) (h2 : (((s[0]?).getD 0).toNat : Int) = 34) (h3 : (((s[s.size - 1]?).getD 0).toNat : Int) = 34) : unqL s.data.toList = docD (innL s.data.toList) := by
  unfold unqL
  have hl : s.data.toList.length = s.size := Array.length_toList
  refine if_pos ⟨by omega, ?_, ?_⟩
  · rw [getD_at (by omega)]; exact UInt8.toNat_inj.1 (by show _ = 34; omega)
  · rw [hl, getD_at (by omega)]; exact UInt8.toNat_inj.1 (by show _ = 34; omega)
theorem quS_ne {s : ByteArray} {t : List UInt8} (h : ofL (quL t) ≠ s) : quL t ≠ s.data.toList := fun h9 => h (by rw [h9, ofL_back])
theorem max_dg (a : UInt8) : ∃ da : Fin 16, max 0 (dg a) = ((da.val : Nat) : Int) := by
  by_cases h : 0 ≤ dg a
  · have h1 := (dg_hx a h).1
    exact ⟨⟨(dg a).toNat, by omega⟩, by show max 0 (dg a) = (((dg a).toNat : Nat) : Int); omega⟩
  · exact ⟨0, by show max 0 (dg a) = 0; omega⟩
theorem Unquote_pure (s : ByteArray) (hs : s.size ≤ 600000) : APure Tryd.prog 11 [.v (.string s)] (unqA s) := by
  refine APure.mkL (.cons (.v _) .nil) ((.tup (.cons (.v _) (.cons (.v _) .nil)))) ?_
  refine ACalls_intro Tryd.func11 (by kernel_rfl) rfl (by rw [Tryd.ntmps11]; simp) (fun hm => ?_)
  simp only [Tryd.ntmps11, Tryd.results11, List.length_cons, List.length_nil, Nat.reduceAdd, Nat.reduceSub, List.replicate_succ, List.replicate_zero, List.cons_append, List.nil_append]
  refine AWp_seqK fun Y0 y0 => ?_
  refine AWp_region ?_
  refine aops_chunk 1 fun Q0 q0 => ?_
  simp only [↓bO, go_sem, seval]
  refine q0 _ ?_
  clear q0 Q0
  simp only [go_sem]
  simp only [↓bO, go_sem, seval]
  refine y0 _ ?_
  try clear y0 Y0
  refine AWp_seqK fun Y0 y0 => ?_
  refine AWp_seqK fun Y1 y1 => ?_
  refine AWp_region ?_
  iterate 4 (refine aops_chunk 1 fun Q0 q0 => ?_; simp only [↓bO, go_sem, seval]; refine q0 _ ?_; clear q0 Q0; simp only [go_sem])
  refine aops_case 11 rfl (fun hc11 => ?_) (fun hc11 => ?_)
  ·
   simp only [List.set_cons_zero, List.set_cons_succ]
   have hno : s.size < 2 ∨ ¬ (((s[0]?).getD 0).toNat : Int) = 34 ∨ ¬ (((s[s.size - 1]?).getD 0).toNat : Int) = 34 := .inl (by have h9 := hc11; simp at h9; omega)
   iterate 11 (refine aops_chunk 1 fun Q0 q0 => ?_; simp only [↓bO, go_sem, seval]; refine q0 _ ?_; clear q0 Q0; simp only [go_sem])
   simp only [↓bO, go_sem, seval]
   refine y1 _ ?_
   try clear y1 Y1
   refine AWp_cond (b := true) (by first | exact rfl | exact congrArg (fun b => AV.v (.bool b)) hb23) (fun _ => ?_) (fun h => (by cases h))
   refine AWp_seqK fun Y1 y1 => ?_
   refine AWp_region ?_
   refine aops_chunk 1 fun Q0 q0 => ?_
   simp only [↓bO, go_sem, seval]
   refine q0 _ ?_
   clear q0 Q0
   simp only [go_sem]
   simp only [↓bO, go_sem, seval]
   refine y1 _ ?_
   try clear y1 Y1
   refine AWp_ret ?_
   try simp only [thenQ, blockQ, noGotoQ, retQ, aRes, tupOf, bS, bA]
   rw [unqA_none (unq_no hno)]
   exact Le.refl _
  ·
   simp only [List.set_cons_zero, List.set_cons_succ]
   have h2 : 2 ≤ s.size := by (have h9 := hc11; simp at h9; omega)
   have hl0 : ((0 : Int) < (s.size : Int)) = True := eq_true (by omega)
   have hlz : 0 < s.size := by omega
   have he1 : (s.size : Int) - 1 = ((s.size - 1 : Nat) : Int) := by omega
   have hl9 : s.size - 1 < s.size := by omega
   have hw0 : IntKind.i64.wrap (((s.size - 1 : Nat)) : Int) = ((s.size - 1 : Nat) : Int) := wrap_in (by omega) (by omega)
   iterate 5 (refine aops_chunk 1 fun Q0 q0 => ?_; simp only [↓bO, go_sem, seval, hl0, hlz, he1, hl9, hw0]; refine q0 _ ?_; clear q0 Q0; simp only [go_sem])
   refine aops_case 16 rfl (fun hc16 => ?_) (fun hc16 => ?_)
   ·
    simp only [List.set_cons_zero, List.set_cons_succ]
    have hno : s.size < 2 ∨ ¬ (((s[0]?).getD 0).toNat : Int) = 34 ∨ ¬ (((s[s.size - 1]?).getD 0).toNat : Int) = 34 := .inr (.inl (by have h9 := hc16; simpa using h9))
    iterate 6 (refine aops_chunk 1 fun Q0 q0 => ?_; simp only [↓bO, go_sem, seval, hl0, hlz, he1, hl9, hw0]; refine q0 _ ?_; clear q0 Q0; simp only [go_sem])
    simp only [↓bO, go_sem, seval, hl0, hlz, he1, hl9, hw0]
    refine y1 _ ?_
    try clear y1 Y1
    refine AWp_cond (b := true) (by first | exact rfl | exact congrArg (fun b => AV.v (.bool b)) hb23) (fun _ => ?_) (fun h => (by cases h))
    refine AWp_seqK fun Y1 y1 => ?_
    refine AWp_region ?_
    refine aops_chunk 1 fun Q0 q0 => ?_
    simp only [↓bO, go_sem, seval, hl0, hlz, he1, hl9, hw0]
    refine q0 _ ?_
    clear q0 Q0
    simp only [go_sem]
    simp only [↓bO, go_sem, seval, hl0, hlz, he1, hl9, hw0]
    refine y1 _ ?_
    try clear y1 Y1
    refine AWp_ret ?_
    try simp only [thenQ, blockQ, noGotoQ, retQ, aRes, tupOf, bS, bA]
    rw [unqA_none (unq_no hno)]
    exact Le.refl _
   ·
    simp only [List.set_cons_zero, List.set_cons_succ]
    have h3 : (((s[0]?).getD 0).toNat : Int) = 34 := by (have h9 := hc16; simpa using h9)
    iterate 6 (refine aops_chunk 1 fun Q0 q0 => ?_; simp only [↓bO, go_sem, seval, hl0, hlz, he1, hl9, hw0]; refine q0 _ ?_; clear q0 Q0; simp only [go_sem])
    simp only [↓bO, go_sem, seval, hl0, hlz, he1, hl9, hw0]
    refine y1 _ ?_
    try clear y1 Y1
    refine AWp_cond rfl (fun hb23 => ?_) (fun hb23 => ?_)
    ·
     have hno : s.size < 2 ∨ ¬ (((s[0]?).getD 0).toNat : Int) = 34 ∨ ¬ (((s[s.size - 1]?).getD 0).toNat : Int) = 34 := .inr (.inr (by have h9 := hb23; simpa using h9))
     refine AWp_seqK fun Y1 y1 => ?_
     refine AWp_region ?_
     refine aops_chunk 1 fun Q0 q0 => ?_
     simp only [↓bO, go_sem, seval, hl0, hlz, he1, hl9, hw0]
     refine q0 _ ?_
     clear q0 Q0
     simp only [go_sem]
     simp only [↓bO, go_sem, seval, hl0, hlz, he1, hl9, hw0]
     refine y1 _ ?_
     try clear y1 Y1
     refine AWp_ret ?_
     try simp only [thenQ, blockQ, noGotoQ, retQ, aRes, tupOf, bS, bA]
     rw [unqA_none (unq_no hno)]
     exact Le.refl _
    ·
     have h4 : (((s[s.size - 1]?).getD 0).toNat : Int) = 34 := by (have h9 := hb23; simpa using h9)
     refine AWp_skip ?_
     try simp only [thenQ, blockQ, noGotoQ]
     refine y0 _ ?_
     try clear y0 Y0
     refine AWp_seqK fun Y0 y0 => ?_
     refine AWp_region ?_
     simp only [↓bO, go_sem, seval, hl0, hlz, he1, hl9, hw0]
     refine y0 _ ?_
     try clear y0 Y0
     refine AWp_seqK fun Y0 y0 => ?_
     refine AWp_seqK fun Y1 y1 => ?_
     refine AWp_region ?_
     simp only [↓bO, go_sem, seval, hl0, hlz, he1, hl9, hw0]
     refine y1 _ ?_
     try clear y1 Y1
     refine AWp_block ?_
     refine AWp_weak (Weak.tokSlot 4 5 1 rfl) ?_
     simp only [List.set_cons_zero, List.set_cons_succ]
     refine AWp_loopM (σ := Nat × List UInt8) (mB 76 49) (fun w => PD prgD s w.1 w.2) (fun w => [(4, .osl 0 1 (w.2.map u8C)), (5, .v (.int .i64 ((w.1 + 1 : Nat) : Int)))]) (fun w => [(0, .tok 5 1 w.2.length)]) (fun w => s.size - w.1) (0, []) (PD.start h2) ?_ (fun w hw => ?_)
     ·
      try simp only [maskL, setsL, putsO, putO, mB, List.set_cons_zero, List.set_cons_succ, seval, bL]
      exact Weak.mk (by simp only [go_sem, Le.refl, Le.any, Le.slNil, Int.natCast_add, Int.cast_ofNat_Int, Int.natCast_one]) (fun _ _ h => h) rfl rfl
     simp only [maskL, setsL, putsO, putO, mB, List.set_cons_zero, List.set_cons_succ, seval]
     have hwi := hw.1
     have hwl := hw.2.1
     have hw2 : IntKind.i64.wrap (((w.1 + 1 : Nat) : Int) + 1) = ((w.1 + 1 + 1 : Nat) : Int) := by (rw [wrap_in (by omega) (by omega)]; omega)
     have hb1 : (w.2.length + 1) * 1 ≤ 140737488355328 := by omega
     have hb2 : w.2.length + 1 ≤ maxLen := by (simp only [maxLen]; omega)
     have hb5 : w.2.length ≤ 140737488355327 := by omega
     refine AWp_seqK fun Y1 y1 => ?_
     refine AWp_seqK fun Y2 y2 => ?_
     refine AWp_region ?_
     iterate 4 (refine aops_chunk 1 fun Q0 q0 => ?_; simp only [↓bO, go_sem, seval, hb1, hb2, hb5, hw2, List.map_append, List.length_append, u8C, hl0, hlz, he1, hl9, hw0]; refine q0 _ ?_; clear q0 Q0; simp only [go_sem])
     simp only [↓bO, go_sem, seval, hb1, hb2, hb5, hw2, List.map_append, List.length_append, u8C, hl0, hlz, he1, hl9, hw0]
     refine y2 _ ?_
     try clear y2 Y2
     refine AWp_cond rfl (fun hb28 => ?_) (fun hb28 => ?_)
     ·
      have hlt : w.1 + 2 < s.size := by (have h9 := hb28; simp at h9; omega)
      obtain ⟨c, hc⟩ : ∃ c, (s[w.1 + 1]?).getD 0 = c := ⟨_, rfl⟩
      have hlc := c.toNat_lt
      have hl1 : w.1 + 1 < s.size := by omega
      refine AWp_skip ?_
      try simp only [thenQ, blockQ, noGotoQ]
      refine y1 _ ?_
      try clear y1 Y1
      refine AWp_seqK fun Y1 y1 => ?_
      refine AWp_block ?_
      refine AWp_seqK fun Y2 y2 => ?_
      refine AWp_seqK fun Y3 y3 => ?_
      refine AWp_region ?_
      iterate 3 (refine aops_chunk 1 fun Q0 q0 => ?_; simp only [↓bO, go_sem, seval, hb1, hb2, hb5, hw2, List.map_append, List.length_append, u8C, hl0, hlz, he1, hl9, hw0, hc, hl1]; refine q0 _ ?_; clear q0 Q0; simp only [go_sem])
      simp only [↓bO, go_sem, seval, hb1, hb2, hb5, hw2, List.map_append, List.length_append, u8C, hl0, hlz, he1, hl9, hw0, hc, hl1]
      refine y3 _ ?_
      try clear y3 Y3
      refine AWp_cond rfl (fun hb34 => ?_) (fun hb34 => ?_)
      ·
       have hn92 : ¬ c.toNat = 92 := by (have h9 := hb34; simp at h9; omega)
       have hP1 := hw.one (by omega) hc hn92
       refine AWp_seqK fun Y3 y3 => ?_
       refine AWp_region ?_
       iterate 4 (refine aops_chunk 1 fun Q0 q0 => ?_; simp only [↓bO, go_sem, seval, hb1, hb2, hb5, hw2, List.map_append, List.length_append, u8C, hl0, hlz, he1, hl9, hw0, hc, hl1]; refine q0 _ ?_; clear q0 Q0; simp only [go_sem])
       refine aops_chunk 1 fun Q0 q0 => ?_
       simp only [↓bO, go_sem, seval, ↓bs1_1, ↓bs1_2, ↓bs1_3, ↓bs1_4, ↓bs1_5, ↓bs1_6, ↓bs1_7, ↓bs1_8, ↓bs1_9, ↓bs1_10, ↓bs1_11, ↓bs1_12, hb1, hb2, hb5, hw2, List.map_append, List.length_append, u8C, hl0, hlz, he1, hl9, hw0, hc, hl1]
       refine q0 _ ?_
       clear q0 Q0
       simp only [go_sem]
       refine aops_chunk 1 fun Q0 q0 => ?_
       simp only [↓bO, go_sem, seval, hb1, hb2, hb5, hw2, List.map_append, List.length_append, u8C, hl0, hlz, he1, hl9, hw0, hc, hl1]
       refine q0 _ ?_
       clear q0 Q0
       simp only [go_sem]
       simp only [↓bO, go_sem, seval, hb1, hb2, hb5, hw2, List.map_append, List.length_append, u8C, hl0, hlz, he1, hl9, hw0, hc, hl1]
       refine y3 _ ?_
       try clear y3 Y3
       refine AWp_exit ?_
       simp only [thenQ, blockQ, noGotoQ, bA, Nat.reduceEqDiff, ↓reduceIte]
       refine y1 _ ?_
       try clear y1 Y1
       refine AWp_region ?_
       iterate 2 (refine aops_chunk 1 fun Q0 q0 => ?_; simp only [↓bO, go_sem, seval, hb1, hb2, hb5, hw2, List.map_append, List.length_append, u8C, hl0, hlz, he1, hl9, hw0, hc, hl1]; refine q0 _ ?_; clear q0 Q0; simp only [go_sem])
       simp only [↓bO, go_sem, seval, hb1, hb2, hb5, hw2, List.map_append, List.length_append, u8C, hl0, hlz, he1, hl9, hw0, hc, hl1]
       refine ⟨(w.1 + 1, w.2 ++ [c]), hP1, (by simp only; omega), ?_⟩
       try simp only [maskL, setsL, putsO, putO, mB, List.set_cons_zero, List.set_cons_succ, seval, hb1, hb2, hb5, hw2, List.map_append, bL, List.length_append, u8C, hl0, hlz, he1, hl9, hw0, hc, hl1]
       exact Weak.mk (by simp only [go_sem, Le.refl, Le.any, Le.slNil, Int.natCast_add, Int.cast_ofNat_Int, Int.natCast_one]) (fun _ _ h => h) rfl rfl
      ·
       have hc92 : c.toNat = 92 := by (have h9 := hb34; simp at h9; omega)
       have hw3 : IntKind.i64.wrap (((w.1 + 1 : Nat) : Int) + 2) = ((w.1 + 3 : Nat) : Int) := by (rw [wrap_in (by omega) (by omega)]; omega)
       refine AWp_skip ?_
       try simp only [thenQ, blockQ, noGotoQ]
       refine y2 _ ?_
       try clear y2 Y2
       refine AWp_seqK fun Y2 y2 => ?_
       refine AWp_seqK fun Y3 y3 => ?_
       refine AWp_region ?_
       iterate 5 (refine aops_chunk 1 fun Q0 q0 => ?_; simp only [↓bO, go_sem, seval, hb1, hb2, hb5, hw2, List.map_append, List.length_append, u8C, hl0, hlz, he1, hl9, hw0, hc, hl1, hw3]; refine q0 _ ?_; clear q0 Q0; simp only [go_sem])
       simp only [↓bO, go_sem, seval, hb1, hb2, hb5, hw2, List.map_append, List.length_append, u8C, hl0, hlz, he1, hl9, hw0, hc, hl1, hw3]
       refine y3 _ ?_
       try clear y3 Y3
       refine AWp_cond rfl (fun hb46 => ?_) (fun hb46 => ?_)
       ·
        have hbad := hw.bad (by omega) hc hc92 (by have h9 := hb46; simp at h9; omega)
        refine AWp_seqK fun Y3 y3 => ?_
        refine AWp_region ?_
        refine aops_chunk 1 fun Q0 q0 => ?_
        simp only [↓bO, go_sem, seval, hb1, hb2, hb5, hw2, List.map_append, List.length_append, u8C, hl0, hlz, he1, hl9, hw0, hc, hl1, hw3]
        refine q0 _ ?_
        clear q0 Q0
        simp only [go_sem]
        simp only [↓bO, go_sem, seval, hb1, hb2, hb5, hw2, List.map_append, List.length_append, u8C, hl0, hlz, he1, hl9, hw0, hc, hl1, hw3]
        refine y3 _ ?_
        try clear y3 Y3
        refine AWp_ret ?_
        try simp only [thenQ, blockQ, noGotoQ, retQ, aRes, tupOf, bS, bA]
        rw [unqA_none (unqL_none' hbad)]
        exact Le.refl _
       ·
        have h5 : w.1 + 4 < s.size := by (have h9 := hb46; simp at h9; omega)
        have hw4 : IntKind.i64.wrap (((w.1 + 1 : Nat) : Int) + 1) = ((w.1 + 2 : Nat) : Int) := by (rw [wrap_in (by omega) (by omega)]; omega)
        have hw5 : IntKind.i64.wrap (((w.1 + 3 : Nat) : Int) + 1) = ((w.1 + 3 + 1 : Nat) : Int) := by (rw [wrap_in (by omega) (by omega)]; omega)
        obtain ⟨a, ha⟩ : ∃ a, (s[w.1 + 2]?).getD 0 = a := ⟨_, rfl⟩
        obtain ⟨b, hbb⟩ : ∃ b, (s[w.1 + 3]?).getD 0 = b := ⟨_, rfl⟩
        have hl2 : w.1 + 2 < s.size := by omega
        have hl3 : w.1 + 3 < s.size := by omega
        have hP3 := hw.three (by omega) hc hc92 ha hbb
        obtain ⟨da, hda⟩ : ∃ da : Fin 16, max 0 (dg a) = ((da.val : Nat) : Int) := max_dg a
        obtain ⟨db, hdb⟩ : ∃ db : Fin 16, max 0 (dg b) = ((db.val : Nat) : Int) := max_dg b
        rw [hda, hdb] at hP3
        obtain ⟨tt, ht⟩ : ∃ t, two ((da.val : Nat) : Int) ((db.val : Nat) : Int) = t := ⟨_, rfl⟩
        have hor := or_two da db
        rw [ht] at hor hP3
        refine AWp_skip ?_
        try simp only [thenQ, blockQ, noGotoQ]
        refine y2 _ ?_
        try clear y2 Y2
        refine AWp_seqK fun Y2 y2 => ?_
        refine AWp_drawK 10 mixed (by kernel_rfl) fun J0 j0 => ?_
        iterate 4 (simp only [go_sem]; refine dRun_chunk 1 fun Q0 q0 => ?_; simp only [↓dRun, ↓dOp, ↓bO, go_sem, seval, hb1, hb2, hb5, hw2, List.map_append, List.length_append, u8C, hl0, hlz, he1, hl9, hw0, hc, hl1, hw3, hw4, hw5, ha, hbb, hl2, hl3, hda, hdb, hor]; refine q0 _ ?_; clear q0 Q0)
        simp only [go_sem]
        refine dRun_chunk 1 fun Q0 q0 => ?_
        simp only [↓dRun, ↓dOp, ↓bO, go_sem, seval, hb1, hb2, hb5, hw2, List.map_append, List.length_append, u8C, hl0, hlz, he1, hl9, hw0, hc, hl1, hw3, hw4, hw5, ha, hbb, hl2, hl3, hda, hdb, hor]
        refine ⟨_, IxHex_pure a, ?_⟩
        try simp only [bS, bA, thenQ, blockQ, noGotoQ]
        iterate 4 (refine q0 _ ?_; clear q0 Q0; simp only [go_sem]; refine dRun_chunk 1 fun Q0 q0 => ?_; simp only [↓dRun, ↓dOp, ↓bO, go_sem, seval, hb1, hb2, hb5, hw2, List.map_append, List.length_append, u8C, hl0, hlz, he1, hl9, hw0, hc, hl1, hw3, hw4, hw5, ha, hbb, hl2, hl3, hda, hdb, hor])
        refine q0 _ ?_
        clear q0 Q0
        simp only [go_sem]
        simp only [↓dRun, ↓dOp, ↓bO, go_sem, seval, hb1, hb2, hb5, hw2, List.map_append, List.length_append, u8C, hl0, hlz, he1, hl9, hw0, hc, hl1, hw3, hw4, hw5, ha, hbb, hl2, hl3, hda, hdb, hor]
        refine ⟨_, IxHex_pure b, ?_⟩
        try simp only [bS, bA, thenQ, blockQ, noGotoQ]
        refine j0 _ ?_
        clear j0 J0
        simp only [go_sem]
        refine aops_chunk 1 fun Q0 q0 => ?_
        simp only [↓bO, go_sem, seval, hb1, hb2, hb5, hw2, List.map_append, List.length_append, u8C, hl0, hlz, he1, hl9, hw0, hc, hl1, hw3, hw4, hw5, ha, hbb, hl2, hl3, hda, hdb, hor]
        refine q0 _ ?_
        clear q0 Q0
        simp only [go_sem]
        simp only [↓bO, go_sem, seval, hb1, hb2, hb5, hw2, List.map_append, List.length_append, u8C, hl0, hlz, he1, hl9, hw0, hc, hl1, hw3, hw4, hw5, ha, hbb, hl2, hl3, hda, hdb, hor]
        refine y2 _ ?_
        try clear y2 Y2
        refine AWp_seqK fun Y2 y2 => ?_
        refine AWp_region ?_
        iterate 8 (refine aops_chunk 1 fun Q0 q0 => ?_; simp only [↓bO, go_sem, seval, hb1, hb2, hb5, hw2, List.map_append, List.length_append, u8C, hl0, hlz, he1, hl9, hw0, hc, hl1, hw3, hw4, hw5, ha, hbb, hl2, hl3, hda, hdb, hor]; refine q0 _ ?_; clear q0 Q0; simp only [go_sem])
        refine aops_chunk 1 fun Q0 q0 => ?_
        simp only [↓bO, go_sem, seval, ↓bs1_1, ↓bs1_2, ↓bs1_3, ↓bs1_4, ↓bs1_5, ↓bs1_6, ↓bs1_7, ↓bs1_8, ↓bs1_9, ↓bs1_10, ↓bs1_11, ↓bs1_12, hb1, hb2, hb5, hw2, List.map_append, List.length_append, u8C, hl0, hlz, he1, hl9, hw0, hc, hl1, hw3, hw4, hw5, ha, hbb, hl2, hl3, hda, hdb, hor]
        refine q0 _ ?_
        clear q0 Q0
        simp only [go_sem]
        refine aops_chunk 1 fun Q0 q0 => ?_
        simp only [↓bO, go_sem, seval, hb1, hb2, hb5, hw2, List.map_append, List.length_append, u8C, hl0, hlz, he1, hl9, hw0, hc, hl1, hw3, hw4, hw5, ha, hbb, hl2, hl3, hda, hdb, hor]
        refine q0 _ ?_
        clear q0 Q0
        simp only [go_sem]
        simp only [↓bO, go_sem, seval, hb1, hb2, hb5, hw2, List.map_append, List.length_append, u8C, hl0, hlz, he1, hl9, hw0, hc, hl1, hw3, hw4, hw5, ha, hbb, hl2, hl3, hda, hdb, hor]
        refine y2 _ ?_
        try clear y2 Y2
        refine AWp_region ?_
        iterate 2 (refine aops_chunk 1 fun Q0 q0 => ?_; simp only [↓bO, go_sem, seval, hb1, hb2, hb5, hw2, List.map_append, List.length_append, u8C, hl0, hlz, he1, hl9, hw0, hc, hl1, hw3, hw4, hw5, ha, hbb, hl2, hl3, hda, hdb, hor]; refine q0 _ ?_; clear q0 Q0; simp only [go_sem])
        simp only [↓bO, go_sem, seval, hb1, hb2, hb5, hw2, List.map_append, List.length_append, u8C, hl0, hlz, he1, hl9, hw0, hc, hl1, hw3, hw4, hw5, ha, hbb, hl2, hl3, hda, hdb, hor]
        refine y1 _ ?_
        try clear y1 Y1
        refine AWp_region ?_
        iterate 2 (refine aops_chunk 1 fun Q0 q0 => ?_; simp only [↓bO, go_sem, seval, hb1, hb2, hb5, hw2, List.map_append, List.length_append, u8C, hl0, hlz, he1, hl9, hw0, hc, hl1, hw3, hw4, hw5, ha, hbb, hl2, hl3, hda, hdb, hor]; refine q0 _ ?_; clear q0 Q0; simp only [go_sem])
        simp only [↓bO, go_sem, seval, hb1, hb2, hb5, hw2, List.map_append, List.length_append, u8C, hl0, hlz, he1, hl9, hw0, hc, hl1, hw3, hw4, hw5, ha, hbb, hl2, hl3, hda, hdb, hor]
        refine ⟨(w.1 + 3, w.2 ++ [tt]), hP3, (by simp only; omega), ?_⟩
        try simp only [maskL, setsL, putsO, putO, mB, List.set_cons_zero, List.set_cons_succ, seval, hb1, hb2, hb5, hw2, List.map_append, bL, List.length_append, u8C, hl0, hlz, he1, hl9, hw0, hc, hl1, hw3, hw4, hw5, ha, hbb, hl2, hl3, hda, hdb, hor]
        exact Weak.mk (by simp only [go_sem, Le.refl, Le.any, Le.slNil, Int.natCast_add, Int.cast_ofNat_Int, Int.natCast_one]) (fun _ _ h => h) rfl rfl
     ·
      have hge : ¬ w.1 + 2 < s.size := by (have h9 := hb28; simp at h9; omega)
      have hpr := PD.fin (D := prgD) rfl hw hge
      have hcv := bytesOf_u8 w.2
      refine AWp_exit ?_
      simp only [thenQ, blockQ, noGotoQ, bA, Nat.reduceEqDiff, ↓reduceIte]
      refine y0 _ ?_
      try clear y0 Y0
      refine AWp_seqK fun Y0 y0 => ?_
      refine AWp_seqK fun Y1 y1 => ?_
      refine AWp_region ?_
      refine aops_chunk 1 fun Q0 q0 => ?_
      simp only [↓bO, go_sem, seval, hl0, hlz, he1, hl9, hw0, hcv, strOfNums_u8]
      refine q0 _ ?_
      clear q0 Q0
      simp only [go_sem]
      refine aops_chunk 1 fun Q0 q0 => ?_
      simp only [↓bO, go_sem, seval, aConvB, by50, hl0, hlz, he1, hl9, hw0, hcv, strOfNums_u8]
      refine q0 _ ?_
      clear q0 Q0
      simp only [go_sem]
      refine aops_chunk 1 fun Q0 q0 => ?_
      simp only [↓bO, go_sem, seval, hl0, hlz, he1, hl9, hw0, hcv, strOfNums_u8]
      refine APure.call (by have h9 := Quote_pure (ofL w.2) (by rw [ofL_size]; omega); exact h9) ?_
      try simp only [bS, bA, thenQ, blockQ, noGotoQ]
      refine q0 _ ?_
      clear q0 Q0
      simp only [go_sem]
      refine aops_chunk 1 fun Q0 q0 => ?_
      simp only [↓bO, go_sem, seval, hl0, hlz, he1, hl9, hw0, hcv, strOfNums_u8]
      refine q0 _ ?_
      clear q0 Q0
      simp only [go_sem]
      simp only [↓bO, go_sem, seval, hl0, hlz, he1, hl9, hw0, hcv, strOfNums_u8]
      refine y1 _ ?_
      try clear y1 Y1
      refine AWp_cond rfl (fun hb73 => ?_) (fun hb73 => ?_)
      ·
       have hne : ofL (quL w.2) ≠ s := by (have h9 := hb73; intro h8; rw [ofL_data] at h9; rw [h8] at h9; simp at h9)
       refine AWp_seqK fun Y1 y1 => ?_
       refine AWp_region ?_
       refine aops_chunk 1 fun Q0 q0 => ?_
       simp only [↓bO, go_sem, seval, hl0, hlz, he1, hl9, hw0, hcv, strOfNums_u8]
       refine q0 _ ?_
       clear q0 Q0
       simp only [go_sem]
       simp only [↓bO, go_sem, seval, hl0, hlz, he1, hl9, hw0, hcv, strOfNums_u8]
       refine y1 _ ?_
       try clear y1 Y1
       refine AWp_ret ?_
       try simp only [thenQ, blockQ, noGotoQ, retQ, aRes, tupOf, bS, bA]
       rw [unqA_none (unqL_none hpr (quS_ne hne))]
       exact Le.refl _
      ·
       have heq : ofL (quL w.2) = s := by (have h9 := hb73; rw [ofL_data] at h9; refine eqS_iff.1 ?_; simpa [eqS] using h9)
       refine AWp_skip ?_
       try simp only [thenQ, blockQ, noGotoQ]
       refine y0 _ ?_
       try clear y0 Y0
       refine AWp_seqK fun Y0 y0 => ?_
       refine AWp_region ?_
       refine aops_chunk 1 fun Q0 q0 => ?_
       simp only [↓bO, go_sem, seval, hl0, hlz, he1, hl9, hw0, hcv, strOfNums_u8]
       refine q0 _ ?_
       clear q0 Q0
       simp only [go_sem]
       refine aops_chunk 1 fun Q0 q0 => ?_
       simp only [↓bO, go_sem, seval, aConvB, by50, hl0, hlz, he1, hl9, hw0, hcv, strOfNums_u8]
       refine q0 _ ?_
       clear q0 Q0
       simp only [go_sem]
       refine aops_chunk 1 fun Q0 q0 => ?_
       simp only [↓bO, go_sem, seval, hl0, hlz, he1, hl9, hw0, hcv, strOfNums_u8]
       refine q0 _ ?_
       clear q0 Q0
       simp only [go_sem]
       simp only [↓bO, go_sem, seval, hl0, hlz, he1, hl9, hw0, hcv, strOfNums_u8]
       refine y0 _ ?_
       try clear y0 Y0
       refine AWp_ret ?_
       try simp only [thenQ, blockQ, noGotoQ, retQ, aRes, tupOf, bS, bA]
       rw [unqA_some ((unqL_iff _ _).2 (by rw [← heq]; rfl))]
       exact Le.refl _
theorem docD_one {c : UInt8} {r : List UInt8} (h : ¬ c.toNat = 92) (hp : plainB c = true) : docD (c :: r) = (docD r).map (c :: ·) := by
  conv => lhs; unfold docD
  rw [if_neg h, if_pos hp]
theorem docD_not {c : UInt8} {r : List UInt8} (h : ¬ c.toNat = 92) (hp : plainB c = false) : docD (c :: r) = none := by
  conv => lhs; unfold docD
  rw [if_neg h, if_neg (by simp [hp])]
theorem docD_short {c : UInt8} {r : List UInt8} (h : c.toNat = 92) (hr : r.length ≤ 1) : docD (c :: r) = none := by
  unfold docD
  rw [if_pos h]
  match r, hr with
  | [], _ => rfl
  | [_], _ => rfl
theorem docD_three {c a b : UInt8} {r : List UInt8} (h : c.toNat = 92) (ha : ¬ dg a < 0) (hb : ¬ dg b < 0) (hp : plainB (two (dg a) (dg b)) = false) : docD (c :: a :: b :: r) = (docD r).map (two (dg a) (dg b) :: ·) := by
  conv => lhs; unfold docD
  rw [if_pos h]
  simp only
  rw [if_neg (by omega), if_neg (by simp [hp])]
theorem docD_hex {c a b : UInt8} {r : List UInt8} (h : c.toNat = 92) (hp : dg a < 0 ∨ dg b < 0 ∨ plainB (two (dg a) (dg b)) = true) : docD (c :: a :: b :: r) = none := by
  conv => lhs; unfold docD
  rw [if_pos h]
  simp only
  by_cases h1 : dg a < 0 ∨ dg b < 0
  · rw [if_pos h1]
  · rw [if_neg h1, if_pos (hp.elim (fun h => absurd (.inl h) h1) fun h => h.elim (fun h => absurd (.inr h) h1) id)]
theorem PD.done {s : ByteArray} {k : Nat} {acc : List UInt8} (h : PD docD s k acc) (hk : k + 2 < s.size) {c : UInt8} (hc : (s[k + 1]?).getD 0 = c) (hn : ¬ c.toNat = 92) (hp : plainB c = true) : PD docD s (k + 1) (acc ++ [c]) := by
  refine ⟨by omega, by have := h.2.1; simp; omega, ?_⟩
  rw [h.2.2, inn_at hk hc, docD_one hn hp, Option.map_map]
  congr 1
  funext x; simp
theorem PD.dnot {s : ByteArray} {k : Nat} {acc : List UInt8} (h : PD docD s k acc) (hk : k + 2 < s.size) {c : UInt8} (hc : (s[k + 1]?).getD 0 = c) (hn : ¬ c.toNat = 92) (hp : plainB c = false) : docD (innL s.data.toList) = none := by
  rw [h.2.2, inn_at hk hc, docD_not hn hp]; rfl
theorem PD.dbad {s : ByteArray} {k : Nat} {acc : List UInt8} (h : PD docD s k acc) (hk : k + 2 < s.size) {c : UInt8} (hc : (s[k + 1]?).getD 0 = c) (hn : c.toNat = 92) (h4 : s.size ≤ k + 4) : docD (innL s.data.toList) = none := by
  rw [h.2.2, inn_at hk hc, docD_short hn (by rw [List.length_drop, inn_len]; omega)]; rfl
theorem PD.dthree {s : ByteArray} {k : Nat} {acc : List UInt8} (h : PD docD s k acc) (hk : k + 4 < s.size) {c a b : UInt8} (hc : (s[k + 1]?).getD 0 = c) (hn : c.toNat = 92) (ha : (s[k + 2]?).getD 0 = a) (hb : (s[k + 3]?).getD 0 = b)
    (h1 : ¬ dg a < 0) (h2 : ¬ dg b < 0) (hp : plainB (two (dg a) (dg b)) = false) : PD docD s (k + 3) (acc ++ [two (dg a) (dg b)]) := by
  refine ⟨by omega, by have := h.2.1; simp; omega, ?_⟩
  rw [h.2.2, inn_at (by omega) hc, inn_at (k := k + 1) (by omega) ha, inn_at (k := k + 2) (by omega) hb, docD_three hn h1 h2 hp, Option.map_map]
  congr 1
  funext x; simp
theorem PD.dhex {s : ByteArray} {k : Nat} {acc : List UInt8} (h : PD docD s k acc) (hk : k + 4 < s.size) {c a b : UInt8} (hc : (s[k + 1]?).getD 0 = c) (hn : c.toNat = 92) (ha : (s[k + 2]?).getD 0 = a) (hb : (s[k + 3]?).getD 0 = b)
    (hp : dg a < 0 ∨ dg b < 0 ∨ plainB (two (dg a) (dg b)) = true) : docD (innL s.data.toList) = none := by
  rw [h.2.2, inn_at (by omega) hc, inn_at (k := k + 1) (by omega) ha, inn_at (k := k + 2) (by omega) hb, docD_hex hn hp]; rfl
theorem u8_two (x y : Fin 16) : IntKind.u8.wrap (16 * ((x.val : Nat) : Int) + ((y.val : Nat) : Int)) = ((16 * x.val + y.val : Nat) : Int) := by
  revert x y; decide +kernel
theorem two_w {a b : UInt8} (h1 : ¬ dg a < 0) (h2 : ¬ dg b < 0) : IntKind.u8.wrap (16 * dg a + dg b) = ((two (dg a) (dg b)).toNat : Int) := by
  have h3 := two_nat (a := a) (b := b) (by omega) (by omega)
  have h4 := (dg_hx a (by omega)).1
  have h5 := (dg_hx b (by omega)).1
  have h6 := u8_two ⟨(dg a).toNat, by omega⟩ ⟨(dg b).toNat, by omega⟩
  simp only at h6
  rw [h3, ← h6]
  congr 1
  omega
theorem RUnquote_pure (s : ByteArray) (hs : s.size ≤ 600000) : APure Tryd.prog 12 [.v (.string s)] (unqA s) := by
  refine APure.mkL (.cons (.v _) .nil) ((.tup (.cons (.v _) (.cons (.v _) .nil)))) ?_
  refine ACalls_intro Tryd.func12 (by kernel_rfl) rfl (by rw [Tryd.ntmps12]; simp) (fun hm => ?_)
  simp only [Tryd.ntmps12, Tryd.results12, List.length_cons, List.length_nil, Nat.reduceAdd, Nat.reduceSub, List.replicate_succ, List.replicate_zero, List.cons_append, List.nil_append]
  refine AWp_seqK fun Y0 y0 => ?_
  refine AWp_region ?_
  refine aops_chunk 1 fun Q0 q0 => ?_
  simp only [↓bO, go_sem, seval]
  refine q0 _ ?_
  clear q0 Q0
  simp only [go_sem]
  simp only [↓bO, go_sem, seval]
  refine y0 _ ?_
  try clear y0 Y0
  refine AWp_seqK fun Y0 y0 => ?_
  refine AWp_seqK fun Y1 y1 => ?_
  refine AWp_region ?_
  iterate 4 (refine aops_chunk 1 fun Q0 q0 => ?_; simp only [↓bO, go_sem, seval]; refine q0 _ ?_; clear q0 Q0; simp only [go_sem])
  refine aops_case 10 rfl (fun hc10 => ?_) (fun hc10 => ?_)
  ·
   simp only [List.set_cons_zero, List.set_cons_succ]
   have hno : s.size < 2 ∨ ¬ (((s[0]?).getD 0).toNat : Int) = 34 ∨ ¬ (((s[s.size - 1]?).getD 0).toNat : Int) = 34 := .inl (by have h9 := hc10; simp at h9; omega)
   iterate 11 (refine aops_chunk 1 fun Q0 q0 => ?_; simp only [↓bO, go_sem, seval]; refine q0 _ ?_; clear q0 Q0; simp only [go_sem])
   simp only [↓bO, go_sem, seval]
   refine y1 _ ?_
   try clear y1 Y1
   refine AWp_cond (b := true) (by first | exact rfl | exact congrArg (fun b => AV.v (.bool b)) hb22) (fun _ => ?_) (fun h => (by cases h))
   refine AWp_seqK fun Y1 y1 => ?_
   refine AWp_region ?_
   refine aops_chunk 1 fun Q0 q0 => ?_
   simp only [↓bO, go_sem, seval]
   refine q0 _ ?_
   clear q0 Q0
   simp only [go_sem]
   simp only [↓bO, go_sem, seval]
   refine y1 _ ?_
   try clear y1 Y1
   refine AWp_ret ?_
   try simp only [thenQ, blockQ, noGotoQ, retQ, aRes, tupOf, bS, bA]
   rw [unqA_none (unq_no hno)]
   exact Le.refl _
  ·
   simp only [List.set_cons_zero, List.set_cons_succ]
   have h2 : 2 ≤ s.size := (by have h9 := hc10; simp at h9; omega)
   have hl0 : ((0 : Int) < (s.size : Int)) = True := eq_true (by omega)
   have hlz : 0 < s.size := by omega
   have he1 : (s.size : Int) - 1 = ((s.size - 1 : Nat) : Int) := by omega
   have hl9 : s.size - 1 < s.size := by omega
   have hw0 : IntKind.i64.wrap (((s.size - 1 : Nat)) : Int) = ((s.size - 1 : Nat) : Int) := wrap_in (by omega) (by omega)
   iterate 5 (refine aops_chunk 1 fun Q0 q0 => ?_; simp only [↓bO, go_sem, seval, hl0, hlz, he1, hl9, hw0]; refine q0 _ ?_; clear q0 Q0; simp only [go_sem])
   refine aops_case 15 rfl (fun hc15 => ?_) (fun hc15 => ?_)
   ·
    simp only [List.set_cons_zero, List.set_cons_succ]
    have hno : s.size < 2 ∨ ¬ (((s[0]?).getD 0).toNat : Int) = 34 ∨ ¬ (((s[s.size - 1]?).getD 0).toNat : Int) = 34 := .inr (.inl (by have h9 := hc15; simpa using h9))
    iterate 6 (refine aops_chunk 1 fun Q0 q0 => ?_; simp only [↓bO, go_sem, seval, hl0, hlz, he1, hl9, hw0]; refine q0 _ ?_; clear q0 Q0; simp only [go_sem])
    simp only [↓bO, go_sem, seval, hl0, hlz, he1, hl9, hw0]
    refine y1 _ ?_
    try clear y1 Y1
    refine AWp_cond (b := true) (by first | exact rfl | exact congrArg (fun b => AV.v (.bool b)) hb22) (fun _ => ?_) (fun h => (by cases h))
    refine AWp_seqK fun Y1 y1 => ?_
    refine AWp_region ?_
    refine aops_chunk 1 fun Q0 q0 => ?_
    simp only [↓bO, go_sem, seval, hl0, hlz, he1, hl9, hw0]
    refine q0 _ ?_
    clear q0 Q0
    simp only [go_sem]
    simp only [↓bO, go_sem, seval, hl0, hlz, he1, hl9, hw0]
    refine y1 _ ?_
    try clear y1 Y1
    refine AWp_ret ?_
    try simp only [thenQ, blockQ, noGotoQ, retQ, aRes, tupOf, bS, bA]
    rw [unqA_none (unq_no hno)]
    exact Le.refl _
   ·
    simp only [List.set_cons_zero, List.set_cons_succ]
    have h3 : (((s[0]?).getD 0).toNat : Int) = 34 := (by have h9 := hc15; simpa using h9)
    iterate 6 (refine aops_chunk 1 fun Q0 q0 => ?_; simp only [↓bO, go_sem, seval, hl0, hlz, he1, hl9, hw0]; refine q0 _ ?_; clear q0 Q0; simp only [go_sem])
    simp only [↓bO, go_sem, seval, hl0, hlz, he1, hl9, hw0]
    refine y1 _ ?_
    try clear y1 Y1
    refine AWp_cond rfl (fun hb22 => ?_) (fun hb22 => ?_)
    ·
     have hno : s.size < 2 ∨ ¬ (((s[0]?).getD 0).toNat : Int) = 34 ∨ ¬ (((s[s.size - 1]?).getD 0).toNat : Int) = 34 := .inr (.inr (by have h9 := hb22; simpa using h9))
     refine AWp_seqK fun Y1 y1 => ?_
     refine AWp_region ?_
     refine aops_chunk 1 fun Q0 q0 => ?_
     simp only [↓bO, go_sem, seval, hl0, hlz, he1, hl9, hw0]
     refine q0 _ ?_
     clear q0 Q0
     simp only [go_sem]
     simp only [↓bO, go_sem, seval, hl0, hlz, he1, hl9, hw0]
     refine y1 _ ?_
     try clear y1 Y1
     refine AWp_ret ?_
     try simp only [thenQ, blockQ, noGotoQ, retQ, aRes, tupOf, bS, bA]
     rw [unqA_none (unq_no hno)]
     exact Le.refl _
    ·
     have h4 : (((s[s.size - 1]?).getD 0).toNat : Int) = 34 := (by have h9 := hb22; simpa using h9)
     have hfr := unq_fr h2 h3 h4
     refine AWp_skip ?_
     try simp only [thenQ, blockQ, noGotoQ]
     refine y0 _ ?_
     try clear y0 Y0
     refine AWp_seqK fun Y0 y0 => ?_
     refine AWp_region ?_
     simp only [↓bO, go_sem, seval, hl0, hlz, he1, hl9, hw0]
     refine y0 _ ?_
     try clear y0 Y0
     refine AWp_seqK fun Y0 y0 => ?_
     refine AWp_seqK fun Y1 y1 => ?_
     refine AWp_region ?_
     simp only [↓bO, go_sem, seval, hl0, hlz, he1, hl9, hw0]
     refine y1 _ ?_
     try clear y1 Y1
     refine AWp_block ?_
     refine AWp_weak (Weak.tokSlot 4 5 1 rfl) ?_
     simp only [List.set_cons_zero, List.set_cons_succ]
     refine AWp_loopM (σ := Nat × List UInt8) (mB 101 49) (fun w => PD docD s w.1 w.2) (fun w => [(4, .osl 0 1 (w.2.map u8C)), (5, .v (.int .i64 ((w.1 + 1 : Nat) : Int)))]) (fun w => [(0, .tok 5 1 w.2.length)]) (fun w => s.size - w.1) (0, []) (PD.start h2) ?_ (fun w hw => ?_)
     ·
      try simp only [maskL, setsL, putsO, putO, mB, List.set_cons_zero, List.set_cons_succ, seval, bL]
      exact Weak.mk (by simp only [go_sem, Le.refl, Le.any, Le.slNil, Int.natCast_add, Int.cast_ofNat_Int, Int.natCast_one]) (fun _ _ h => h) rfl rfl
     simp only [maskL, setsL, putsO, putO, mB, List.set_cons_zero, List.set_cons_succ, seval]
     have hwi := hw.1
     have hwl := hw.2.1
     have hw2 : IntKind.i64.wrap (((w.1 + 1 : Nat) : Int) + 1) = ((w.1 + 1 + 1 : Nat) : Int) := by (rw [wrap_in (by omega) (by omega)]; omega)
     have hb1 : (w.2.length + 1) * 1 ≤ 140737488355328 := by omega
     have hb2 : w.2.length + 1 ≤ maxLen := by (simp only [maxLen]; omega)
     have hb5 : w.2.length ≤ 140737488355327 := by omega
     refine AWp_seqK fun Y1 y1 => ?_
     refine AWp_seqK fun Y2 y2 => ?_
     refine AWp_region ?_
     iterate 4 (refine aops_chunk 1 fun Q0 q0 => ?_; simp only [↓bO, go_sem, seval, hb1, hb2, hb5, hw2, List.map_append, List.length_append, u8C, hl0, hlz, he1, hl9, hw0]; refine q0 _ ?_; clear q0 Q0; simp only [go_sem])
     simp only [↓bO, go_sem, seval, hb1, hb2, hb5, hw2, List.map_append, List.length_append, u8C, hl0, hlz, he1, hl9, hw0]
     refine y2 _ ?_
     try clear y2 Y2
     refine AWp_cond rfl (fun hb27 => ?_) (fun hb27 => ?_)
     ·
      have hlt : w.1 + 2 < s.size := (by have h9 := hb27; simp at h9; omega)
      obtain ⟨c, hc⟩ : ∃ c, (s[w.1 + 1]?).getD 0 = c := ⟨_, rfl⟩
      have hlc := c.toNat_lt
      have hl1 : w.1 + 1 < s.size := by omega
      refine AWp_skip ?_
      try simp only [thenQ, blockQ, noGotoQ]
      refine y1 _ ?_
      try clear y1 Y1
      refine AWp_seqK fun Y1 y1 => ?_
      refine AWp_block ?_
      refine AWp_seqK fun Y2 y2 => ?_
      refine AWp_region ?_
      iterate 3 (refine aops_chunk 1 fun Q0 q0 => ?_; simp only [↓bO, go_sem, seval, hb1, hb2, hb5, hw2, List.map_append, List.length_append, u8C, hl0, hlz, he1, hl9, hw0, hc, hl1]; refine q0 _ ?_; clear q0 Q0; simp only [go_sem])
      simp only [↓bO, go_sem, seval, hb1, hb2, hb5, hw2, List.map_append, List.length_append, u8C, hl0, hlz, he1, hl9, hw0, hc, hl1]
      refine y2 _ ?_
      try clear y2 Y2
      refine AWp_seqK fun Y2 y2 => ?_
      refine AWp_seqK fun Y3 y3 => ?_
      refine AWp_region ?_
      refine aops_chunk 1 fun Q0 q0 => ?_
      simp only [↓bO, go_sem, seval, hb1, hb2, hb5, hw2, List.map_append, List.length_append, u8C, hl0, hlz, he1, hl9, hw0, hc, hl1]
      refine q0 _ ?_
      clear q0 Q0
      simp only [go_sem]
      simp only [↓bO, go_sem, seval, hb1, hb2, hb5, hw2, List.map_append, List.length_append, u8C, hl0, hlz, he1, hl9, hw0, hc, hl1]
      refine y3 _ ?_
      try clear y3 Y3
      refine AWp_cond rfl (fun hb34 => ?_) (fun hb34 => ?_)
      ·
       have hc92 : c.toNat = 92 := (by have h9 := hb34; simp at h9; omega)
       have hw3 : IntKind.i64.wrap (((w.1 + 1 : Nat) : Int) + 3) = ((w.1 + 4 : Nat) : Int) := by (rw [wrap_in (by omega) (by omega)]; omega)
       refine AWp_seqK fun Y3 y3 => ?_
       refine AWp_seqK fun Y4 y4 => ?_
       refine AWp_region ?_
       iterate 6 (refine aops_chunk 1 fun Q0 q0 => ?_; simp only [↓bO, go_sem, seval, hb1, hb2, hb5, hw2, List.map_append, List.length_append, u8C, hl0, hlz, he1, hl9, hw0, hc, hl1, hw3]; refine q0 _ ?_; clear q0 Q0; simp only [go_sem])
       refine aops_case 40 rfl (fun hc40 => ?_) (fun hc40 => ?_)
       ·
        simp only [List.set_cons_zero, List.set_cons_succ]
        have hbad := hw.dbad hlt hc hc92 (by have h9 := hc40; simp at h9; omega)
        iterate 14 (refine aops_chunk 1 fun Q0 q0 => ?_; simp only [↓bO, go_sem, seval, hb1, hb2, hb5, hw2, List.map_append, List.length_append, u8C, hl0, hlz, he1, hl9, hw0, hc, hl1, hw3]; refine q0 _ ?_; clear q0 Q0; simp only [go_sem])
        simp only [↓bO, go_sem, seval, hb1, hb2, hb5, hw2, List.map_append, List.length_append, u8C, hl0, hlz, he1, hl9, hw0, hc, hl1, hw3]
        refine y4 _ ?_
        try clear y4 Y4
        refine AWp_cond (b := true) (by first | exact rfl | exact congrArg (fun b => AV.v (.bool b)) hb55) (fun _ => ?_) (fun h => (by cases h))
        refine AWp_seqK fun Y4 y4 => ?_
        refine AWp_region ?_
        refine aops_chunk 1 fun Q0 q0 => ?_
        simp only [↓bO, go_sem, seval, hb1, hb2, hb5, hw2, List.map_append, List.length_append, u8C, hl0, hlz, he1, hl9, hw0, hc, hl1, hw3]
        refine q0 _ ?_
        clear q0 Q0
        simp only [go_sem]
        simp only [↓bO, go_sem, seval, hb1, hb2, hb5, hw2, List.map_append, List.length_append, u8C, hl0, hlz, he1, hl9, hw0, hc, hl1, hw3]
        refine y4 _ ?_
        try clear y4 Y4
        refine AWp_ret ?_
        try simp only [thenQ, blockQ, noGotoQ, retQ, aRes, tupOf, bS, bA]
        rw [unqA_none (hfr.trans hbad)]
        exact Le.refl _
       ·
        simp only [List.set_cons_zero, List.set_cons_succ]
        have h5 : w.1 + 4 < s.size := (by have h9 := hc40; simp at h9; omega)
        obtain ⟨a, ha⟩ : ∃ a, (s[w.1 + 2]?).getD 0 = a := ⟨_, rfl⟩
        obtain ⟨b, hbb⟩ : ∃ b, (s[w.1 + 3]?).getD 0 = b := ⟨_, rfl⟩
        have hl2 : w.1 + 2 < s.size := by omega
        have hl3 : w.1 + 3 < s.size := by omega
        have hw4 : IntKind.i64.wrap (((w.1 + 1 : Nat) : Int) + 1) = ((w.1 + 2 : Nat) : Int) := by (rw [wrap_in (by omega) (by omega)]; omega)
        have hw5 : IntKind.i64.wrap (((w.1 + 1 : Nat) : Int) + 2) = ((w.1 + 3 : Nat) : Int) := by (rw [wrap_in (by omega) (by omega)]; omega)
        have hw6 : IntKind.i64.wrap (((w.1 + 3 : Nat) : Int) + 1) = ((w.1 + 3 + 1 : Nat) : Int) := by (rw [wrap_in (by omega) (by omega)]; omega)
        iterate 4 (refine aops_chunk 1 fun Q0 q0 => ?_; simp only [↓bO, go_sem, seval, hb1, hb2, hb5, hw2, List.map_append, List.length_append, u8C, hl0, hlz, he1, hl9, hw0, hc, hl1, hw3, ha, hbb, hl2, hl3, hw4, hw5, hw6]; refine q0 _ ?_; clear q0 Q0; simp only [go_sem])
        refine aops_chunk 1 fun Q0 q0 => ?_
        simp only [↓bO, go_sem, seval, hb1, hb2, hb5, hw2, List.map_append, List.length_append, u8C, hl0, hlz, he1, hl9, hw0, hc, hl1, hw3, ha, hbb, hl2, hl3, hw4, hw5, hw6]
        refine APure.call (Digit_pure a) ?_
        try simp only [bS, bA, thenQ, blockQ, noGotoQ]
        iterate 3 (refine q0 _ ?_; clear q0 Q0; simp only [go_sem]; refine aops_chunk 1 fun Q0 q0 => ?_; simp only [↓bO, go_sem, seval, hb1, hb2, hb5, hw2, List.map_append, List.length_append, u8C, hl0, hlz, he1, hl9, hw0, hc, hl1, hw3, ha, hbb, hl2, hl3, hw4, hw5, hw6])
        refine q0 _ ?_
        clear q0 Q0
        simp only [go_sem]
        refine aops_case 48 rfl (fun hc48 => ?_) (fun hc48 => ?_)
        ·
         simp only [List.set_cons_zero, List.set_cons_succ]
         have hbad := hw.dhex h5 hc hc92 ha hbb (.inl (by have h9 := hc48; simpa using h9))
         iterate 6 (refine aops_chunk 1 fun Q0 q0 => ?_; simp only [↓bO, go_sem, seval, hb1, hb2, hb5, hw2, List.map_append, List.length_append, u8C, hl0, hlz, he1, hl9, hw0, hc, hl1, hw3, ha, hbb, hl2, hl3, hw4, hw5, hw6]; refine q0 _ ?_; clear q0 Q0; simp only [go_sem])
         simp only [↓bO, go_sem, seval, hb1, hb2, hb5, hw2, List.map_append, List.length_append, u8C, hl0, hlz, he1, hl9, hw0, hc, hl1, hw3, ha, hbb, hl2, hl3, hw4, hw5, hw6]
         refine y4 _ ?_
         try clear y4 Y4
         refine AWp_cond (b := true) (by first | exact rfl | exact congrArg (fun b => AV.v (.bool b)) hb55) (fun _ => ?_) (fun h => (by cases h))
         refine AWp_seqK fun Y4 y4 => ?_
         refine AWp_region ?_
         refine aops_chunk 1 fun Q0 q0 => ?_
         simp only [↓bO, go_sem, seval, hb1, hb2, hb5, hw2, List.map_append, List.length_append, u8C, hl0, hlz, he1, hl9, hw0, hc, hl1, hw3, ha, hbb, hl2, hl3, hw4, hw5, hw6]
         refine q0 _ ?_
         clear q0 Q0
         simp only [go_sem]
         simp only [↓bO, go_sem, seval, hb1, hb2, hb5, hw2, List.map_append, List.length_append, u8C, hl0, hlz, he1, hl9, hw0, hc, hl1, hw3, ha, hbb, hl2, hl3, hw4, hw5, hw6]
         refine y4 _ ?_
         try clear y4 Y4
         refine AWp_ret ?_
         try simp only [thenQ, blockQ, noGotoQ, retQ, aRes, tupOf, bS, bA]
         rw [unqA_none (hfr.trans hbad)]
         exact Le.refl _
        ·
         simp only [List.set_cons_zero, List.set_cons_succ]
         have hd1 : ¬ dg a < 0 := (by have h9 := hc48; simpa using h9)
         iterate 4 (refine aops_chunk 1 fun Q0 q0 => ?_; simp only [↓bO, go_sem, seval, hb1, hb2, hb5, hw2, List.map_append, List.length_append, u8C, hl0, hlz, he1, hl9, hw0, hc, hl1, hw3, ha, hbb, hl2, hl3, hw4, hw5, hw6]; refine q0 _ ?_; clear q0 Q0; simp only [go_sem])
         refine aops_chunk 1 fun Q0 q0 => ?_
         simp only [↓bO, go_sem, seval, hb1, hb2, hb5, hw2, List.map_append, List.length_append, u8C, hl0, hlz, he1, hl9, hw0, hc, hl1, hw3, ha, hbb, hl2, hl3, hw4, hw5, hw6]
         refine APure.call (Digit_pure b) ?_
         try simp only [bS, bA, thenQ, blockQ, noGotoQ]
         refine q0 _ ?_
         clear q0 Q0
         simp only [go_sem]
         refine aops_chunk 1 fun Q0 q0 => ?_
         simp only [↓bO, go_sem, seval, hb1, hb2, hb5, hw2, List.map_append, List.length_append, u8C, hl0, hlz, he1, hl9, hw0, hc, hl1, hw3, ha, hbb, hl2, hl3, hw4, hw5, hw6]
         refine q0 _ ?_
         clear q0 Q0
         simp only [go_sem]
         simp only [↓bO, go_sem, seval, hb1, hb2, hb5, hw2, List.map_append, List.length_append, u8C, hl0, hlz, he1, hl9, hw0, hc, hl1, hw3, ha, hbb, hl2, hl3, hw4, hw5, hw6]
         refine y4 _ ?_
         try clear y4 Y4
         refine AWp_cond rfl (fun hb55 => ?_) (fun hb55 => ?_)
         ·
          have hbad := hw.dhex h5 hc hc92 ha hbb (.inr (.inl (by have h9 := hb55; simpa using h9)))
          refine AWp_seqK fun Y4 y4 => ?_
          refine AWp_region ?_
          refine aops_chunk 1 fun Q0 q0 => ?_
          simp only [↓bO, go_sem, seval, hb1, hb2, hb5, hw2, List.map_append, List.length_append, u8C, hl0, hlz, he1, hl9, hw0, hc, hl1, hw3, ha, hbb, hl2, hl3, hw4, hw5, hw6]
          refine q0 _ ?_
          clear q0 Q0
          simp only [go_sem]
          simp only [↓bO, go_sem, seval, hb1, hb2, hb5, hw2, List.map_append, List.length_append, u8C, hl0, hlz, he1, hl9, hw0, hc, hl1, hw3, ha, hbb, hl2, hl3, hw4, hw5, hw6]
          refine y4 _ ?_
          try clear y4 Y4
          refine AWp_ret ?_
          try simp only [thenQ, blockQ, noGotoQ, retQ, aRes, tupOf, bS, bA]
          rw [unqA_none (hfr.trans hbad)]
          exact Le.refl _
         ·
          have hd2 : ¬ dg b < 0 := (by have h9 := hb55; simpa using h9)
          have hda := (dg_hx a (by omega)).1
          have hdb := (dg_hx b (by omega)).1
          have hm1 : IntKind.i64.wrap (16 * dg a) = 16 * dg a := by (rw [wrap_in (by omega) (by omega)])
          have hm2 : IntKind.i64.wrap (16 * dg a + dg b) = 16 * dg a + dg b := by (rw [wrap_in (by omega) (by omega)])
          have htw := two_w hd1 hd2
          obtain ⟨tt, ht⟩ : ∃ t, two (dg a) (dg b) = t := ⟨_, rfl⟩
          rw [ht] at htw
          refine AWp_skip ?_
          try simp only [thenQ, blockQ, noGotoQ]
          refine y3 _ ?_
          try clear y3 Y3
          refine AWp_seqK fun Y3 y3 => ?_
          refine AWp_drawK 13 mixed (by kernel_rfl) fun J0 j0 => ?_
          iterate 4 (simp only [go_sem]; refine dRun_chunk 1 fun Q0 q0 => ?_; simp only [↓dRun, ↓dOp, ↓bO, go_sem, seval, hb1, hb2, hb5, hw2, List.map_append, List.length_append, u8C, hl0, hlz, he1, hl9, hw0, hc, hl1, hw3, ha, hbb, hl2, hl3, hw4, hw5, hw6, hm1, hm2, htw]; refine q0 _ ?_; clear q0 Q0)
          simp only [go_sem]
          refine dRun_chunk 1 fun Q0 q0 => ?_
          simp only [↓dRun, ↓dOp, ↓bO, go_sem, seval, hb1, hb2, hb5, hw2, List.map_append, List.length_append, u8C, hl0, hlz, he1, hl9, hw0, hc, hl1, hw3, ha, hbb, hl2, hl3, hw4, hw5, hw6, hm1, hm2, htw]
          refine ⟨_, Digit_pure a, ?_⟩
          try simp only [bS, bA, thenQ, blockQ, noGotoQ]
          iterate 6 (refine q0 _ ?_; clear q0 Q0; simp only [go_sem]; refine dRun_chunk 1 fun Q0 q0 => ?_; simp only [↓dRun, ↓dOp, ↓bO, go_sem, seval, hb1, hb2, hb5, hw2, List.map_append, List.length_append, u8C, hl0, hlz, he1, hl9, hw0, hc, hl1, hw3, ha, hbb, hl2, hl3, hw4, hw5, hw6, hm1, hm2, htw])
          refine ⟨_, Digit_pure b, ?_⟩
          try simp only [bS, bA, thenQ, blockQ, noGotoQ]
          refine q0 _ ?_
          clear q0 Q0
          simp only [go_sem]
          refine dRun_chunk 1 fun Q0 q0 => ?_
          simp only [↓dRun, ↓dOp, ↓bO, go_sem, seval, hb1, hb2, hb5, hw2, List.map_append, List.length_append, u8C, hl0, hlz, he1, hl9, hw0, hc, hl1, hw3, ha, hbb, hl2, hl3, hw4, hw5, hw6, hm1, hm2, htw]
          refine q0 _ ?_
          clear q0 Q0
          simp only [go_sem]
          simp only [↓dRun, ↓dOp, ↓bO, go_sem, seval, hb1, hb2, hb5, hw2, List.map_append, List.length_append, u8C, hl0, hlz, he1, hl9, hw0, hc, hl1, hw3, ha, hbb, hl2, hl3, hw4, hw5, hw6, hm1, hm2, htw]
          refine j0 _ ?_
          clear j0 J0
          simp only [go_sem]
          simp only [↓bO, go_sem, seval, hb1, hb2, hb5, hw2, List.map_append, List.length_append, u8C, hl0, hlz, he1, hl9, hw0, hc, hl1, hw3, ha, hbb, hl2, hl3, hw4, hw5, hw6, hm1, hm2, htw]
          refine y3 _ ?_
          try clear y3 Y3
          refine AWp_seqK fun Y3 y3 => ?_
          refine AWp_seqK fun Y4 y4 => ?_
          refine AWp_region ?_
          iterate 3 (refine aops_chunk 1 fun Q0 q0 => ?_; simp only [↓bO, go_sem, seval, hb1, hb2, hb5, hw2, List.map_append, List.length_append, u8C, hl0, hlz, he1, hl9, hw0, hc, hl1, hw3, ha, hbb, hl2, hl3, hw4, hw5, hw6, hm1, hm2, htw]; refine q0 _ ?_; clear q0 Q0; simp only [go_sem])
          refine aops_case 71 rfl (fun hc71 => ?_) (fun hc71 => ?_)
          ·
           simp only [List.set_cons_zero, List.set_cons_succ]
           have g1 : ¬ (tt.toNat : Int) < 32 := (by have h9 := hc71; simp at h9; omega)
           iterate 4 (refine aops_chunk 1 fun Q0 q0 => ?_; simp only [↓bO, go_sem, seval, hb1, hb2, hb5, hw2, List.map_append, List.length_append, u8C, hl0, hlz, he1, hl9, hw0, hc, hl1, hw3, ha, hbb, hl2, hl3, hw4, hw5, hw6, hm1, hm2, htw]; refine q0 _ ?_; clear q0 Q0; simp only [go_sem])
           refine aops_case 75 rfl (fun hc75 => ?_) (fun hc75 => ?_)
           ·
            simp only [List.set_cons_zero, List.set_cons_succ]
            have g2 : ¬ (tt.toNat : Int) ≥ 127 := (by have h9 := hc75; simp at h9; omega)
            iterate 4 (refine aops_chunk 1 fun Q0 q0 => ?_; simp only [↓bO, go_sem, seval, hb1, hb2, hb5, hw2, List.map_append, List.length_append, u8C, hl0, hlz, he1, hl9, hw0, hc, hl1, hw3, ha, hbb, hl2, hl3, hw4, hw5, hw6, hm1, hm2, htw]; refine q0 _ ?_; clear q0 Q0; simp only [go_sem])
            refine aops_case 79 rfl (fun hc79 => ?_) (fun hc79 => ?_)
            ·
             simp only [List.set_cons_zero, List.set_cons_succ]
             have g3 : ¬ (tt.toNat : Int) = 34 := (by have h9 := hc79; simp at h9; omega)
             iterate 2 (refine aops_chunk 1 fun Q0 q0 => ?_; simp only [↓bO, go_sem, seval, hb1, hb2, hb5, hw2, List.map_append, List.length_append, u8C, hl0, hlz, he1, hl9, hw0, hc, hl1, hw3, ha, hbb, hl2, hl3, hw4, hw5, hw6, hm1, hm2, htw]; refine q0 _ ?_; clear q0 Q0; simp only [go_sem])
             simp only [↓bO, go_sem, seval, hb1, hb2, hb5, hw2, List.map_append, List.length_append, u8C, hl0, hlz, he1, hl9, hw0, hc, hl1, hw3, ha, hbb, hl2, hl3, hw4, hw5, hw6, hm1, hm2, htw]
             refine y4 _ ?_
             try clear y4 Y4
             refine AWp_cond rfl (fun hb82 => ?_) (fun hb82 => ?_)
             ·
              have g4 := is_plain g1 g2 g3 (by have h9 := hb82; simp at h9; omega)
              have hbad := hw.dhex h5 hc hc92 ha hbb (.inr (.inr (by rw [ht]; exact g4)))
              refine AWp_seqK fun Y4 y4 => ?_
              refine AWp_region ?_
              refine aops_chunk 1 fun Q0 q0 => ?_
              simp only [↓bO, go_sem, seval, hb1, hb2, hb5, hw2, List.map_append, List.length_append, u8C, hl0, hlz, he1, hl9, hw0, hc, hl1, hw3, ha, hbb, hl2, hl3, hw4, hw5, hw6, hm1, hm2, htw]
              refine q0 _ ?_
              clear q0 Q0
              simp only [go_sem]
              simp only [↓bO, go_sem, seval, hb1, hb2, hb5, hw2, List.map_append, List.length_append, u8C, hl0, hlz, he1, hl9, hw0, hc, hl1, hw3, ha, hbb, hl2, hl3, hw4, hw5, hw6, hm1, hm2, htw]
              refine y4 _ ?_
              try clear y4 Y4
              refine AWp_ret ?_
              try simp only [thenQ, blockQ, noGotoQ, retQ, aRes, tupOf, bS, bA]
              rw [unqA_none (hfr.trans hbad)]
              exact Le.refl _
             ·
              have hnp : plainB tt = false := not_plain (.inr (.inr (.inr (by have h9 := hb82; simp at h9; omega))))
              have hP3 := hw.dthree h5 hc hc92 ha hbb hd1 hd2 (by rw [ht]; exact hnp)
              rw [ht] at hP3
              refine AWp_skip ?_
              try simp only [thenQ, blockQ, noGotoQ]
              refine y3 _ ?_
              try clear y3 Y3
              refine AWp_region ?_
              iterate 2 (refine aops_chunk 1 fun Q0 q0 => ?_; simp only [↓bO, go_sem, seval, hb1, hb2, hb5, hw2, List.map_append, List.length_append, u8C, hl0, hlz, he1, hl9, hw0, hc, hl1, hw3, ha, hbb, hl2, hl3, hw4, hw5, hw6, hm1, hm2, htw]; refine q0 _ ?_; clear q0 Q0; simp only [go_sem])
              simp only [↓bO, go_sem, seval, hb1, hb2, hb5, hw2, List.map_append, List.length_append, u8C, hl0, hlz, he1, hl9, hw0, hc, hl1, hw3, ha, hbb, hl2, hl3, hw4, hw5, hw6, hm1, hm2, htw]
              refine y2 _ ?_
              try clear y2 Y2
              refine AWp_region ?_
              iterate 2 (refine aops_chunk 1 fun Q0 q0 => ?_; simp only [↓bO, go_sem, seval, hb1, hb2, hb5, hw2, List.map_append, List.length_append, u8C, hl0, hlz, he1, hl9, hw0, hc, hl1, hw3, ha, hbb, hl2, hl3, hw4, hw5, hw6, hm1, hm2, htw]; refine q0 _ ?_; clear q0 Q0; simp only [go_sem])
              refine aops_chunk 1 fun Q0 q0 => ?_
              simp only [↓bO, go_sem, seval, ↓bs1_1, ↓bs1_2, ↓bs1_3, ↓bs1_4, ↓bs1_5, ↓bs1_6, ↓bs1_7, ↓bs1_8, ↓bs1_9, ↓bs1_10, ↓bs1_11, ↓bs1_12, hb1, hb2, hb5, hw2, List.map_append, List.length_append, u8C, hl0, hlz, he1, hl9, hw0, hc, hl1, hw3, ha, hbb, hl2, hl3, hw4, hw5, hw6, hm1, hm2, htw]
              refine q0 _ ?_
              clear q0 Q0
              simp only [go_sem]
              refine aops_chunk 1 fun Q0 q0 => ?_
              simp only [↓bO, go_sem, seval, hb1, hb2, hb5, hw2, List.map_append, List.length_append, u8C, hl0, hlz, he1, hl9, hw0, hc, hl1, hw3, ha, hbb, hl2, hl3, hw4, hw5, hw6, hm1, hm2, htw]
              refine q0 _ ?_
              clear q0 Q0
              simp only [go_sem]
              simp only [↓bO, go_sem, seval, hb1, hb2, hb5, hw2, List.map_append, List.length_append, u8C, hl0, hlz, he1, hl9, hw0, hc, hl1, hw3, ha, hbb, hl2, hl3, hw4, hw5, hw6, hm1, hm2, htw]
              refine y1 _ ?_
              try clear y1 Y1
              refine AWp_region ?_
              iterate 2 (refine aops_chunk 1 fun Q0 q0 => ?_; simp only [↓bO, go_sem, seval, hb1, hb2, hb5, hw2, List.map_append, List.length_append, u8C, hl0, hlz, he1, hl9, hw0, hc, hl1, hw3, ha, hbb, hl2, hl3, hw4, hw5, hw6, hm1, hm2, htw]; refine q0 _ ?_; clear q0 Q0; simp only [go_sem])
              simp only [↓bO, go_sem, seval, hb1, hb2, hb5, hw2, List.map_append, List.length_append, u8C, hl0, hlz, he1, hl9, hw0, hc, hl1, hw3, ha, hbb, hl2, hl3, hw4, hw5, hw6, hm1, hm2, htw]
              refine ⟨(w.1 + 3, w.2 ++ [tt]), hP3, (by simp only; omega), ?_⟩
              try simp only [maskL, setsL, putsO, putO, mB, List.set_cons_zero, List.set_cons_succ, seval, hb1, hb2, hb5, hw2, List.map_append, bL, List.length_append, u8C, hl0, hlz, he1, hl9, hw0, hc, hl1, hw3, ha, hbb, hl2, hl3, hw4, hw5, hw6, hm1, hm2, htw]
              exact Weak.mk (by simp only [go_sem, Le.refl, Le.any, Le.slNil, Int.natCast_add, Int.cast_ofNat_Int, Int.natCast_one]) (fun _ _ h => h) rfl rfl
            ·
             simp only [List.set_cons_zero, List.set_cons_succ]
             have hnp : plainB tt = false := not_plain (.inr (.inr (.inl (by have h9 := hc79; simp at h9; omega))))
             have hP3 := hw.dthree h5 hc hc92 ha hbb hd1 hd2 (by rw [ht]; exact hnp)
             rw [ht] at hP3
             iterate 2 (refine aops_chunk 1 fun Q0 q0 => ?_; simp only [↓bO, go_sem, seval, hb1, hb2, hb5, hw2, List.map_append, List.length_append, u8C, hl0, hlz, he1, hl9, hw0, hc, hl1, hw3, ha, hbb, hl2, hl3, hw4, hw5, hw6, hm1, hm2, htw]; refine q0 _ ?_; clear q0 Q0; simp only [go_sem])
             simp only [↓bO, go_sem, seval, hb1, hb2, hb5, hw2, List.map_append, List.length_append, u8C, hl0, hlz, he1, hl9, hw0, hc, hl1, hw3, ha, hbb, hl2, hl3, hw4, hw5, hw6, hm1, hm2, htw]
             refine y4 _ ?_
             try clear y4 Y4
             refine AWp_cond (b := false) (by first | exact rfl | exact congrArg (fun b => AV.v (.bool b)) hb82) (fun h => (by cases h)) (fun _ => ?_)
             refine AWp_skip ?_
             try simp only [thenQ, blockQ, noGotoQ]
             refine y3 _ ?_
             try clear y3 Y3
             refine AWp_region ?_
             iterate 2 (refine aops_chunk 1 fun Q0 q0 => ?_; simp only [↓bO, go_sem, seval, hb1, hb2, hb5, hw2, List.map_append, List.length_append, u8C, hl0, hlz, he1, hl9, hw0, hc, hl1, hw3, ha, hbb, hl2, hl3, hw4, hw5, hw6, hm1, hm2, htw]; refine q0 _ ?_; clear q0 Q0; simp only [go_sem])
             simp only [↓bO, go_sem, seval, hb1, hb2, hb5, hw2, List.map_append, List.length_append, u8C, hl0, hlz, he1, hl9, hw0, hc, hl1, hw3, ha, hbb, hl2, hl3, hw4, hw5, hw6, hm1, hm2, htw]
             refine y2 _ ?_
             try clear y2 Y2
             refine AWp_region ?_
             iterate 2 (refine aops_chunk 1 fun Q0 q0 => ?_; simp only [↓bO, go_sem, seval, hb1, hb2, hb5, hw2, List.map_append, List.length_append, u8C, hl0, hlz, he1, hl9, hw0, hc, hl1, hw3, ha, hbb, hl2, hl3, hw4, hw5, hw6, hm1, hm2, htw]; refine q0 _ ?_; clear q0 Q0; simp only [go_sem])
             refine aops_chunk 1 fun Q0 q0 => ?_
             simp only [↓bO, go_sem, seval, ↓bs1_1, ↓bs1_2, ↓bs1_3, ↓bs1_4, ↓bs1_5, ↓bs1_6, ↓bs1_7, ↓bs1_8, ↓bs1_9, ↓bs1_10, ↓bs1_11, ↓bs1_12, hb1, hb2, hb5, hw2, List.map_append, List.length_append, u8C, hl0, hlz, he1, hl9, hw0, hc, hl1, hw3, ha, hbb, hl2, hl3, hw4, hw5, hw6, hm1, hm2, htw]
             refine q0 _ ?_
             clear q0 Q0
             simp only [go_sem]
             refine aops_chunk 1 fun Q0 q0 => ?_
             simp only [↓bO, go_sem, seval, hb1, hb2, hb5, hw2, List.map_append, List.length_append, u8C, hl0, hlz, he1, hl9, hw0, hc, hl1, hw3, ha, hbb, hl2, hl3, hw4, hw5, hw6, hm1, hm2, htw]
             refine q0 _ ?_
             clear q0 Q0
             simp only [go_sem]
             simp only [↓bO, go_sem, seval, hb1, hb2, hb5, hw2, List.map_append, List.length_append, u8C, hl0, hlz, he1, hl9, hw0, hc, hl1, hw3, ha, hbb, hl2, hl3, hw4, hw5, hw6, hm1, hm2, htw]
             refine y1 _ ?_
             try clear y1 Y1
             refine AWp_region ?_
             iterate 2 (refine aops_chunk 1 fun Q0 q0 => ?_; simp only [↓bO, go_sem, seval, hb1, hb2, hb5, hw2, List.map_append, List.length_append, u8C, hl0, hlz, he1, hl9, hw0, hc, hl1, hw3, ha, hbb, hl2, hl3, hw4, hw5, hw6, hm1, hm2, htw]; refine q0 _ ?_; clear q0 Q0; simp only [go_sem])
             simp only [↓bO, go_sem, seval, hb1, hb2, hb5, hw2, List.map_append, List.length_append, u8C, hl0, hlz, he1, hl9, hw0, hc, hl1, hw3, ha, hbb, hl2, hl3, hw4, hw5, hw6, hm1, hm2, htw]
             refine ⟨(w.1 + 3, w.2 ++ [tt]), hP3, (by simp only; omega), ?_⟩
             try simp only [maskL, setsL, putsO, putO, mB, List.set_cons_zero, List.set_cons_succ, seval, hb1, hb2, hb5, hw2, List.map_append, bL, List.length_append, u8C, hl0, hlz, he1, hl9, hw0, hc, hl1, hw3, ha, hbb, hl2, hl3, hw4, hw5, hw6, hm1, hm2, htw]
             exact Weak.mk (by simp only [go_sem, Le.refl, Le.any, Le.slNil, Int.natCast_add, Int.cast_ofNat_Int, Int.natCast_one]) (fun _ _ h => h) rfl rfl
           ·
            simp only [List.set_cons_zero, List.set_cons_succ]
            have hnp : plainB tt = false := not_plain (.inr (.inl (by have h9 := hc75; simp at h9; omega)))
            have hP3 := hw.dthree h5 hc hc92 ha hbb hd1 hd2 (by rw [ht]; exact hnp)
            rw [ht] at hP3
            iterate 6 (refine aops_chunk 1 fun Q0 q0 => ?_; simp only [↓bO, go_sem, seval, hb1, hb2, hb5, hw2, List.map_append, List.length_append, u8C, hl0, hlz, he1, hl9, hw0, hc, hl1, hw3, ha, hbb, hl2, hl3, hw4, hw5, hw6, hm1, hm2, htw]; refine q0 _ ?_; clear q0 Q0; simp only [go_sem])
            simp only [↓bO, go_sem, seval, hb1, hb2, hb5, hw2, List.map_append, List.length_append, u8C, hl0, hlz, he1, hl9, hw0, hc, hl1, hw3, ha, hbb, hl2, hl3, hw4, hw5, hw6, hm1, hm2, htw]
            refine y4 _ ?_
            try clear y4 Y4
            refine AWp_cond (b := false) (by first | exact rfl | exact congrArg (fun b => AV.v (.bool b)) hb82) (fun h => (by cases h)) (fun _ => ?_)
            refine AWp_skip ?_
            try simp only [thenQ, blockQ, noGotoQ]
            refine y3 _ ?_
            try clear y3 Y3
            refine AWp_region ?_
            iterate 2 (refine aops_chunk 1 fun Q0 q0 => ?_; simp only [↓bO, go_sem, seval, hb1, hb2, hb5, hw2, List.map_append, List.length_append, u8C, hl0, hlz, he1, hl9, hw0, hc, hl1, hw3, ha, hbb, hl2, hl3, hw4, hw5, hw6, hm1, hm2, htw]; refine q0 _ ?_; clear q0 Q0; simp only [go_sem])
            simp only [↓bO, go_sem, seval, hb1, hb2, hb5, hw2, List.map_append, List.length_append, u8C, hl0, hlz, he1, hl9, hw0, hc, hl1, hw3, ha, hbb, hl2, hl3, hw4, hw5, hw6, hm1, hm2, htw]
            refine y2 _ ?_
            try clear y2 Y2
            refine AWp_region ?_
            iterate 2 (refine aops_chunk 1 fun Q0 q0 => ?_; simp only [↓bO, go_sem, seval, hb1, hb2, hb5, hw2, List.map_append, List.length_append, u8C, hl0, hlz, he1, hl9, hw0, hc, hl1, hw3, ha, hbb, hl2, hl3, hw4, hw5, hw6, hm1, hm2, htw]; refine q0 _ ?_; clear q0 Q0; simp only [go_sem])
            refine aops_chunk 1 fun Q0 q0 => ?_
            simp only [↓bO, go_sem, seval, ↓bs1_1, ↓bs1_2, ↓bs1_3, ↓bs1_4, ↓bs1_5, ↓bs1_6, ↓bs1_7, ↓bs1_8, ↓bs1_9, ↓bs1_10, ↓bs1_11, ↓bs1_12, hb1, hb2, hb5, hw2, List.map_append, List.length_append, u8C, hl0, hlz, he1, hl9, hw0, hc, hl1, hw3, ha, hbb, hl2, hl3, hw4, hw5, hw6, hm1, hm2, htw]
            refine q0 _ ?_
            clear q0 Q0
            simp only [go_sem]
            refine aops_chunk 1 fun Q0 q0 => ?_
            simp only [↓bO, go_sem, seval, hb1, hb2, hb5, hw2, List.map_append, List.length_append, u8C, hl0, hlz, he1, hl9, hw0, hc, hl1, hw3, ha, hbb, hl2, hl3, hw4, hw5, hw6, hm1, hm2, htw]
            refine q0 _ ?_
            clear q0 Q0
            simp only [go_sem]
            simp only [↓bO, go_sem, seval, hb1, hb2, hb5, hw2, List.map_append, List.length_append, u8C, hl0, hlz, he1, hl9, hw0, hc, hl1, hw3, ha, hbb, hl2, hl3, hw4, hw5, hw6, hm1, hm2, htw]
            refine y1 _ ?_
            try clear y1 Y1
            refine AWp_region ?_
            iterate 2 (refine aops_chunk 1 fun Q0 q0 => ?_; simp only [↓bO, go_sem, seval, hb1, hb2, hb5, hw2, List.map_append, List.length_append, u8C, hl0, hlz, he1, hl9, hw0, hc, hl1, hw3, ha, hbb, hl2, hl3, hw4, hw5, hw6, hm1, hm2, htw]; refine q0 _ ?_; clear q0 Q0; simp only [go_sem])
            simp only [↓bO, go_sem, seval, hb1, hb2, hb5, hw2, List.map_append, List.length_append, u8C, hl0, hlz, he1, hl9, hw0, hc, hl1, hw3, ha, hbb, hl2, hl3, hw4, hw5, hw6, hm1, hm2, htw]
            refine ⟨(w.1 + 3, w.2 ++ [tt]), hP3, (by simp only; omega), ?_⟩
            try simp only [maskL, setsL, putsO, putO, mB, List.set_cons_zero, List.set_cons_succ, seval, hb1, hb2, hb5, hw2, List.map_append, bL, List.length_append, u8C, hl0, hlz, he1, hl9, hw0, hc, hl1, hw3, ha, hbb, hl2, hl3, hw4, hw5, hw6, hm1, hm2, htw]
            exact Weak.mk (by simp only [go_sem, Le.refl, Le.any, Le.slNil, Int.natCast_add, Int.cast_ofNat_Int, Int.natCast_one]) (fun _ _ h => h) rfl rfl
          ·
           simp only [List.set_cons_zero, List.set_cons_succ]
           have hnp : plainB tt = false := not_plain (.inl (by have h9 := hc71; simp at h9; omega))
           have hP3 := hw.dthree h5 hc hc92 ha hbb hd1 hd2 (by rw [ht]; exact hnp)
           rw [ht] at hP3
           iterate 10 (refine aops_chunk 1 fun Q0 q0 => ?_; simp only [↓bO, go_sem, seval, hb1, hb2, hb5, hw2, List.map_append, List.length_append, u8C, hl0, hlz, he1, hl9, hw0, hc, hl1, hw3, ha, hbb, hl2, hl3, hw4, hw5, hw6, hm1, hm2, htw]; refine q0 _ ?_; clear q0 Q0; simp only [go_sem])
           simp only [↓bO, go_sem, seval, hb1, hb2, hb5, hw2, List.map_append, List.length_append, u8C, hl0, hlz, he1, hl9, hw0, hc, hl1, hw3, ha, hbb, hl2, hl3, hw4, hw5, hw6, hm1, hm2, htw]
           refine y4 _ ?_
           try clear y4 Y4
           refine AWp_cond (b := false) (by first | exact rfl | exact congrArg (fun b => AV.v (.bool b)) hb82) (fun h => (by cases h)) (fun _ => ?_)
           refine AWp_skip ?_
           try simp only [thenQ, blockQ, noGotoQ]
           refine y3 _ ?_
           try clear y3 Y3
           refine AWp_region ?_
           iterate 2 (refine aops_chunk 1 fun Q0 q0 => ?_; simp only [↓bO, go_sem, seval, hb1, hb2, hb5, hw2, List.map_append, List.length_append, u8C, hl0, hlz, he1, hl9, hw0, hc, hl1, hw3, ha, hbb, hl2, hl3, hw4, hw5, hw6, hm1, hm2, htw]; refine q0 _ ?_; clear q0 Q0; simp only [go_sem])
           simp only [↓bO, go_sem, seval, hb1, hb2, hb5, hw2, List.map_append, List.length_append, u8C, hl0, hlz, he1, hl9, hw0, hc, hl1, hw3, ha, hbb, hl2, hl3, hw4, hw5, hw6, hm1, hm2, htw]
           refine y2 _ ?_
           try clear y2 Y2
           refine AWp_region ?_
           iterate 2 (refine aops_chunk 1 fun Q0 q0 => ?_; simp only [↓bO, go_sem, seval, hb1, hb2, hb5, hw2, List.map_append, List.length_append, u8C, hl0, hlz, he1, hl9, hw0, hc, hl1, hw3, ha, hbb, hl2, hl3, hw4, hw5, hw6, hm1, hm2, htw]; refine q0 _ ?_; clear q0 Q0; simp only [go_sem])
           refine aops_chunk 1 fun Q0 q0 => ?_
           simp only [↓bO, go_sem, seval, ↓bs1_1, ↓bs1_2, ↓bs1_3, ↓bs1_4, ↓bs1_5, ↓bs1_6, ↓bs1_7, ↓bs1_8, ↓bs1_9, ↓bs1_10, ↓bs1_11, ↓bs1_12, hb1, hb2, hb5, hw2, List.map_append, List.length_append, u8C, hl0, hlz, he1, hl9, hw0, hc, hl1, hw3, ha, hbb, hl2, hl3, hw4, hw5, hw6, hm1, hm2, htw]
           refine q0 _ ?_
           clear q0 Q0
           simp only [go_sem]
           refine aops_chunk 1 fun Q0 q0 => ?_
           simp only [↓bO, go_sem, seval, hb1, hb2, hb5, hw2, List.map_append, List.length_append, u8C, hl0, hlz, he1, hl9, hw0, hc, hl1, hw3, ha, hbb, hl2, hl3, hw4, hw5, hw6, hm1, hm2, htw]
           refine q0 _ ?_
           clear q0 Q0
           simp only [go_sem]
           simp only [↓bO, go_sem, seval, hb1, hb2, hb5, hw2, List.map_append, List.length_append, u8C, hl0, hlz, he1, hl9, hw0, hc, hl1, hw3, ha, hbb, hl2, hl3, hw4, hw5, hw6, hm1, hm2, htw]
           refine y1 _ ?_
           try clear y1 Y1
           refine AWp_region ?_
           iterate 2 (refine aops_chunk 1 fun Q0 q0 => ?_; simp only [↓bO, go_sem, seval, hb1, hb2, hb5, hw2, List.map_append, List.length_append, u8C, hl0, hlz, he1, hl9, hw0, hc, hl1, hw3, ha, hbb, hl2, hl3, hw4, hw5, hw6, hm1, hm2, htw]; refine q0 _ ?_; clear q0 Q0; simp only [go_sem])
           simp only [↓bO, go_sem, seval, hb1, hb2, hb5, hw2, List.map_append, List.length_append, u8C, hl0, hlz, he1, hl9, hw0, hc, hl1, hw3, ha, hbb, hl2, hl3, hw4, hw5, hw6, hm1, hm2, htw]
           refine ⟨(w.1 + 3, w.2 ++ [tt]), hP3, (by simp only; omega), ?_⟩
           try simp only [maskL, setsL, putsO, putO, mB, List.set_cons_zero, List.set_cons_succ, seval, hb1, hb2, hb5, hw2, List.map_append, bL, List.length_append, u8C, hl0, hlz, he1, hl9, hw0, hc, hl1, hw3, ha, hbb, hl2, hl3, hw4, hw5, hw6, hm1, hm2, htw]
           exact Weak.mk (by simp only [go_sem, Le.refl, Le.any, Le.slNil, Int.natCast_add, Int.cast_ofNat_Int, Int.natCast_one]) (fun _ _ h => h) rfl rfl
      ·
       have hn92 : ¬ c.toNat = 92 := (by have h9 := hb34; simp at h9; omega)
       refine AWp_seqK fun Y3 y3 => ?_
       refine AWp_region ?_
       iterate 3 (refine aops_chunk 1 fun Q0 q0 => ?_; simp only [↓bO, go_sem, seval, hb1, hb2, hb5, hw2, List.map_append, List.length_append, u8C, hl0, hlz, he1, hl9, hw0, hc, hl1]; refine q0 _ ?_; clear q0 Q0; simp only [go_sem])
       refine aops_case 87 rfl (fun hc87 => ?_) (fun hc87 => ?_)
       ·
        simp only [List.set_cons_zero, List.set_cons_succ]
        have hbad := hw.dnot hlt hc hn92 (not_plain (.inl (by have h9 := hc87; simp at h9; omega)))
        iterate 6 (refine aops_chunk 1 fun Q0 q0 => ?_; simp only [↓bO, go_sem, seval, hb1, hb2, hb5, hw2, List.map_append, List.length_append, u8C, hl0, hlz, he1, hl9, hw0, hc, hl1]; refine q0 _ ?_; clear q0 Q0; simp only [go_sem])
        simp only [↓bO, go_sem, seval, hb1, hb2, hb5, hw2, List.map_append, List.length_append, u8C, hl0, hlz, he1, hl9, hw0, hc, hl1]
        refine y3 _ ?_
        try clear y3 Y3
        refine AWp_cond (b := true) (by first | exact rfl | exact congrArg (fun b => AV.v (.bool b)) hb94) (fun _ => ?_) (fun h => (by cases h))
        refine AWp_seqK fun Y3 y3 => ?_
        refine AWp_region ?_
        refine aops_chunk 1 fun Q0 q0 => ?_
        simp only [↓bO, go_sem, seval, hb1, hb2, hb5, hw2, List.map_append, List.length_append, u8C, hl0, hlz, he1, hl9, hw0, hc, hl1]
        refine q0 _ ?_
        clear q0 Q0
        simp only [go_sem]
        simp only [↓bO, go_sem, seval, hb1, hb2, hb5, hw2, List.map_append, List.length_append, u8C, hl0, hlz, he1, hl9, hw0, hc, hl1]
        refine y3 _ ?_
        try clear y3 Y3
        refine AWp_ret ?_
        try simp only [thenQ, blockQ, noGotoQ, retQ, aRes, tupOf, bS, bA]
        rw [unqA_none (hfr.trans hbad)]
        exact Le.refl _
       ·
        simp only [List.set_cons_zero, List.set_cons_succ]
        have g1 : ¬ (c.toNat : Int) < 32 := (by have h9 := hc87; simp at h9; omega)
        iterate 4 (refine aops_chunk 1 fun Q0 q0 => ?_; simp only [↓bO, go_sem, seval, hb1, hb2, hb5, hw2, List.map_append, List.length_append, u8C, hl0, hlz, he1, hl9, hw0, hc, hl1]; refine q0 _ ?_; clear q0 Q0; simp only [go_sem])
        refine aops_case 91 rfl (fun hc91 => ?_) (fun hc91 => ?_)
        ·
         simp only [List.set_cons_zero, List.set_cons_succ]
         have hbad := hw.dnot hlt hc hn92 (not_plain (.inr (.inl (by have h9 := hc91; simp at h9; omega))))
         iterate 2 (refine aops_chunk 1 fun Q0 q0 => ?_; simp only [↓bO, go_sem, seval, hb1, hb2, hb5, hw2, List.map_append, List.length_append, u8C, hl0, hlz, he1, hl9, hw0, hc, hl1]; refine q0 _ ?_; clear q0 Q0; simp only [go_sem])
         simp only [↓bO, go_sem, seval, hb1, hb2, hb5, hw2, List.map_append, List.length_append, u8C, hl0, hlz, he1, hl9, hw0, hc, hl1]
         refine y3 _ ?_
         try clear y3 Y3
         refine AWp_cond (b := true) (by first | exact rfl | exact congrArg (fun b => AV.v (.bool b)) hb94) (fun _ => ?_) (fun h => (by cases h))
         refine AWp_seqK fun Y3 y3 => ?_
         refine AWp_region ?_
         refine aops_chunk 1 fun Q0 q0 => ?_
         simp only [↓bO, go_sem, seval, hb1, hb2, hb5, hw2, List.map_append, List.length_append, u8C, hl0, hlz, he1, hl9, hw0, hc, hl1]
         refine q0 _ ?_
         clear q0 Q0
         simp only [go_sem]
         simp only [↓bO, go_sem, seval, hb1, hb2, hb5, hw2, List.map_append, List.length_append, u8C, hl0, hlz, he1, hl9, hw0, hc, hl1]
         refine y3 _ ?_
         try clear y3 Y3
         refine AWp_ret ?_
         try simp only [thenQ, blockQ, noGotoQ, retQ, aRes, tupOf, bS, bA]
         rw [unqA_none (hfr.trans hbad)]
         exact Le.refl _
        ·
         simp only [List.set_cons_zero, List.set_cons_succ]
         have g2 : ¬ (c.toNat : Int) ≥ 127 := (by have h9 := hc91; simp at h9; omega)
         iterate 2 (refine aops_chunk 1 fun Q0 q0 => ?_; simp only [↓bO, go_sem, seval, hb1, hb2, hb5, hw2, List.map_append, List.length_append, u8C, hl0, hlz, he1, hl9, hw0, hc, hl1]; refine q0 _ ?_; clear q0 Q0; simp only [go_sem])
         simp only [↓bO, go_sem, seval, hb1, hb2, hb5, hw2, List.map_append, List.length_append, u8C, hl0, hlz, he1, hl9, hw0, hc, hl1]
         refine y3 _ ?_
         try clear y3 Y3
         refine AWp_cond rfl (fun hb94 => ?_) (fun hb94 => ?_)
         ·
          have hbad := hw.dnot hlt hc hn92 (not_plain (.inr (.inr (.inl (by have h9 := hb94; simp at h9; omega)))))
          refine AWp_seqK fun Y3 y3 => ?_
          refine AWp_region ?_
          refine aops_chunk 1 fun Q0 q0 => ?_
          simp only [↓bO, go_sem, seval, hb1, hb2, hb5, hw2, List.map_append, List.length_append, u8C, hl0, hlz, he1, hl9, hw0, hc, hl1]
          refine q0 _ ?_
          clear q0 Q0
          simp only [go_sem]
          simp only [↓bO, go_sem, seval, hb1, hb2, hb5, hw2, List.map_append, List.length_append, u8C, hl0, hlz, he1, hl9, hw0, hc, hl1]
          refine y3 _ ?_
          try clear y3 Y3
          refine AWp_ret ?_
          try simp only [thenQ, blockQ, noGotoQ, retQ, aRes, tupOf, bS, bA]
          rw [unqA_none (hfr.trans hbad)]
          exact Le.refl _
         ·
          have hP1 := hw.done hlt hc hn92 (is_plain g1 g2 (by have h9 := hb94; simp at h9; omega) (by omega))
          refine AWp_skip ?_
          try simp only [thenQ, blockQ, noGotoQ]
          refine y2 _ ?_
          try clear y2 Y2
          refine AWp_region ?_
          iterate 2 (refine aops_chunk 1 fun Q0 q0 => ?_; simp only [↓bO, go_sem, seval, hb1, hb2, hb5, hw2, List.map_append, List.length_append, u8C, hl0, hlz, he1, hl9, hw0, hc, hl1]; refine q0 _ ?_; clear q0 Q0; simp only [go_sem])
          refine aops_chunk 1 fun Q0 q0 => ?_
          simp only [↓bO, go_sem, seval, ↓bs1_1, ↓bs1_2, ↓bs1_3, ↓bs1_4, ↓bs1_5, ↓bs1_6, ↓bs1_7, ↓bs1_8, ↓bs1_9, ↓bs1_10, ↓bs1_11, ↓bs1_12, hb1, hb2, hb5, hw2, List.map_append, List.length_append, u8C, hl0, hlz, he1, hl9, hw0, hc, hl1]
          refine q0 _ ?_
          clear q0 Q0
          simp only [go_sem]
          refine aops_chunk 1 fun Q0 q0 => ?_
          simp only [↓bO, go_sem, seval, hb1, hb2, hb5, hw2, List.map_append, List.length_append, u8C, hl0, hlz, he1, hl9, hw0, hc, hl1]
          refine q0 _ ?_
          clear q0 Q0
          simp only [go_sem]
          simp only [↓bO, go_sem, seval, hb1, hb2, hb5, hw2, List.map_append, List.length_append, u8C, hl0, hlz, he1, hl9, hw0, hc, hl1]
          refine y1 _ ?_
          try clear y1 Y1
          refine AWp_region ?_
          iterate 2 (refine aops_chunk 1 fun Q0 q0 => ?_; simp only [↓bO, go_sem, seval, hb1, hb2, hb5, hw2, List.map_append, List.length_append, u8C, hl0, hlz, he1, hl9, hw0, hc, hl1]; refine q0 _ ?_; clear q0 Q0; simp only [go_sem])
          simp only [↓bO, go_sem, seval, hb1, hb2, hb5, hw2, List.map_append, List.length_append, u8C, hl0, hlz, he1, hl9, hw0, hc, hl1]
          refine ⟨(w.1 + 1, w.2 ++ [c]), hP1, (by simp only; omega), ?_⟩
          try simp only [maskL, setsL, putsO, putO, mB, List.set_cons_zero, List.set_cons_succ, seval, hb1, hb2, hb5, hw2, List.map_append, bL, List.length_append, u8C, hl0, hlz, he1, hl9, hw0, hc, hl1]
          exact Weak.mk (by simp only [go_sem, Le.refl, Le.any, Le.slNil, Int.natCast_add, Int.cast_ofNat_Int, Int.natCast_one]) (fun _ _ h => h) rfl rfl
     ·
      have hge : ¬ w.1 + 2 < s.size := (by have h9 := hb27; simp at h9; omega)
      have hpr := PD.fin (D := docD) rfl hw hge
      have hcv := bytesOf_u8 w.2
      refine AWp_exit ?_
      simp only [thenQ, blockQ, noGotoQ, bA, Nat.reduceEqDiff, ↓reduceIte]
      refine y0 _ ?_
      try clear y0 Y0
      refine AWp_seqK fun Y0 y0 => ?_
      refine AWp_region ?_
      refine aops_chunk 1 fun Q0 q0 => ?_
      simp only [↓bO, go_sem, seval, hl0, hlz, he1, hl9, hw0, hcv, strOfNums_u8]
      refine q0 _ ?_
      clear q0 Q0
      simp only [go_sem]
      refine aops_chunk 1 fun Q0 q0 => ?_
      simp only [↓bO, go_sem, seval, aConvB, by50, hl0, hlz, he1, hl9, hw0, hcv, strOfNums_u8]
      refine q0 _ ?_
      clear q0 Q0
      simp only [go_sem]
      refine aops_chunk 1 fun Q0 q0 => ?_
      simp only [↓bO, go_sem, seval, hl0, hlz, he1, hl9, hw0, hcv, strOfNums_u8]
      refine q0 _ ?_
      clear q0 Q0
      simp only [go_sem]
      simp only [↓bO, go_sem, seval, hl0, hlz, he1, hl9, hw0, hcv, strOfNums_u8]
      refine y0 _ ?_
      try clear y0 Y0
      refine AWp_ret ?_
      try simp only [thenQ, blockQ, noGotoQ, retQ, aRes, tupOf, bS, bA]
      rw [unqA_some (hfr.trans hpr)]
      exact Le.refl _
end Go.Proofs.YtmepcmphcghbeaaDoor
namespace Go.Proofs.YtmepcmphcghbeaaDoor
open Go Go.Shelf
def Tryd.lays145_ren : Go.Shelf.Ren := ⟨fun | 145 => 40 | 220 => 54 | 219 => 57 | 217 => 41 | 225 => 66 | 224 => 67 | 267 => 68 | 266 => 55 | 314 => 81 | n => n, fun | 9 => 9 | 4 => 4 | 59 => 81 | 3 => 3 | 5 => 5 | 46 => 52 | 146 => 113 | 51 => 112 | n => n, fun | 1 => 1 | n => n⟩
theorem Tryd.lays145 : Go.Proofs.Lays.n145 Tryd.prog Tryd.lays145_ren := {
  mixed := by kernel_rfl
  f145 := Tryd.func40.trans (congrArg some (by kernel_rfl))
  f217 := Tryd.func41.trans (congrArg some (by kernel_rfl))
  f219 := Tryd.func57.trans (congrArg some (by kernel_rfl))
  f220 := Tryd.func54.trans (congrArg some (by kernel_rfl))
  f224 := Tryd.func67.trans (congrArg some (by kernel_rfl))
  f225 := Tryd.func66.trans (congrArg some (by kernel_rfl))
  f266 := Tryd.func55.trans (congrArg some (by kernel_rfl))
  f267 := Tryd.func68.trans (congrArg some (by kernel_rfl))
  f314 := Tryd.func81.trans (congrArg some (by kernel_rfl))
  t3 := Tryd.underlying3
  a3 := Tryd.isAgg3
  z3 := Tryd.sizeOf3
  v3 := Tryd.zeroValue3
  t4 := Tryd.underlying4
  a4 := Tryd.isAgg4
  z4 := Tryd.sizeOf4
  v4 := Tryd.zeroValue4
  t5 := Tryd.underlying5
  a5 := Tryd.isAgg5
  z5 := Tryd.sizeOf5
  v5 := Tryd.zeroValue5
  t9 := Tryd.underlying9
  a9 := Tryd.isAgg9
  z9 := Tryd.sizeOf9
  v9 := Tryd.zeroValue9
  t46 := Tryd.underlying52
  a46 := Tryd.isAgg52
  z46 := Tryd.sizeOf52
  v46 := Tryd.zeroValue52
  t51 := Tryd.underlying112
  a51 := Tryd.isAgg112
  z51 := Tryd.sizeOf112
  v51 := Tryd.zeroValue112
  t59 := Tryd.underlying81
  a59 := Tryd.isAgg81
  z59 := Tryd.sizeOf81
  v59 := Tryd.zeroValue81
  t146 := Tryd.underlying113
  a146 := Tryd.isAgg113
  z146 := Tryd.sizeOf113
  v146 := Tryd.zeroValue113
  g1 := by kernel_rfl }
open Go.RowKit Go.Lib in
theorem Tryd.strings_Cut (s sep : ByteArray) (m : Int) (w : World) (hs : s.size < 4294967281) (hm : w.cell? ⟨1, 0, none⟩ = some (.int .i64 m)) :
    Calls Tryd.prog 40 #[.string s, .string sep] w fun e w' => e = .returned (.tuple #[.string ⟨(Lib.cut s.data.toList sep.data.toList).1.toArray⟩, .string ⟨(Lib.cut s.data.toList sep.data.toList).2.1.toArray⟩, .bool (Lib.cut s.data.toList sep.data.toList).2.2]) ∧ ∃ n, w' = w.drewN n := Any.strings_Cut Tryd.lays145 s sep m w hs hm
def Tryd.lays144_ren : Go.Shelf.Ren := ⟨fun | 144 => 32 | 143 => 43 | 219 => 57 | 217 => 41 | 225 => 66 | 224 => 67 | 267 => 68 | 266 => 55 | 314 => 81 | n => n, fun | 9 => 9 | 4 => 4 | 3 => 3 | 5 => 5 | 46 => 52 | 146 => 113 | 51 => 112 | n => n, fun | 1 => 1 | n => n⟩
theorem Tryd.lays144 : Go.Proofs.Lays.n144 Tryd.prog Tryd.lays144_ren := {
  mixed := by kernel_rfl
  f143 := Tryd.func43.trans (congrArg some (by kernel_rfl))
  f144 := Tryd.func32.trans (congrArg some (by kernel_rfl))
  f217 := Tryd.func41.trans (congrArg some (by kernel_rfl))
  f219 := Tryd.func57.trans (congrArg some (by kernel_rfl))
  f224 := Tryd.func67.trans (congrArg some (by kernel_rfl))
  f225 := Tryd.func66.trans (congrArg some (by kernel_rfl))
  f266 := Tryd.func55.trans (congrArg some (by kernel_rfl))
  f267 := Tryd.func68.trans (congrArg some (by kernel_rfl))
  f314 := Tryd.func81.trans (congrArg some (by kernel_rfl))
  t3 := Tryd.underlying3
  a3 := Tryd.isAgg3
  z3 := Tryd.sizeOf3
  v3 := Tryd.zeroValue3
  t4 := Tryd.underlying4
  a4 := Tryd.isAgg4
  z4 := Tryd.sizeOf4
  v4 := Tryd.zeroValue4
  t5 := Tryd.underlying5
  a5 := Tryd.isAgg5
  z5 := Tryd.sizeOf5
  v5 := Tryd.zeroValue5
  t9 := Tryd.underlying9
  a9 := Tryd.isAgg9
  z9 := Tryd.sizeOf9
  v9 := Tryd.zeroValue9
  t46 := Tryd.underlying52
  a46 := Tryd.isAgg52
  z46 := Tryd.sizeOf52
  v46 := Tryd.zeroValue52
  t51 := Tryd.underlying112
  a51 := Tryd.isAgg112
  z51 := Tryd.sizeOf112
  v51 := Tryd.zeroValue112
  t146 := Tryd.underlying113
  a146 := Tryd.isAgg113
  z146 := Tryd.sizeOf113
  v146 := Tryd.zeroValue113
  g1 := by kernel_rfl }
open Go.RowKit Go.Lib in
theorem Tryd.strings_Contains_one (s : ByteArray) (c : UInt8) (w : World) :
    Calls Tryd.prog 32 #[.string s, .string ⟨#[c]⟩] w fun e w' => e = .returned (.bool (decide (0 ≤ Lib.indexByte s.data.toList c))) ∧ w' = w := Any.strings_Contains_one Tryd.lays144 s c w
end Go.Proofs.YtmepcmphcghbeaaDoor
namespace Go.Proofs.YtmepcmphcghbeaaDoor
open Go Go.RowKit
set_option maxRecDepth 100000
set_option maxHeartbeats 4000000
set_option linter.unusedSimpArgs false
set_option linter.unnecessarySimpa false
set_option linter.unusedVariables false
attribute [local irreducible] aops dRun
theorem RLetter_pure (c : Int) : APure Tryd.prog 50 [.v (.int .u8 c)] (.v (.bool (smI c))) := by
  refine APure.mkL (.cons (.v _) .nil) (.v _) ?_
  refine ACalls_intro Tryd.func50 (by kernel_rfl) rfl (by rw [Tryd.ntmps50]; simp) (fun hm => ?_)
  simp only [Tryd.ntmps50, Tryd.results50, List.length_cons, List.length_nil, Nat.reduceAdd, Nat.reduceSub, List.replicate_succ, List.replicate_zero, List.cons_append, List.nil_append]
  refine AWp_seqK fun Y0 y0 => ?_
  refine AWp_region ?_
  simp only [↓bO, go_sem, seval]
  refine y0 _ ?_
  try clear y0 Y0
  refine AWp_seqK fun Y0 y0 => ?_
  refine AWp_region ?_
  iterate 3 (refine aops_chunk 1 fun Q0 q0 => ?_; simp only [↓bO, go_sem, seval]; refine q0 _ ?_; clear q0 Q0; simp only [go_sem])
  refine aops_case 5 rfl (fun hc5 => ?_) (fun hc5 => ?_)
  ·
   simp only [List.set_cons_zero, List.set_cons_succ]
   iterate 3 (refine aops_chunk 1 fun Q0 q0 => ?_; simp only [↓bO, go_sem, seval]; refine q0 _ ?_; clear q0 Q0; simp only [go_sem])
   simp only [↓bO, go_sem, seval]
   refine y0 _ ?_
   try clear y0 Y0
   refine AWp_ret ?_
   try simp only [thenQ, blockQ, noGotoQ, retQ, aRes, tupOf, bS, bA]
   refine Le.of_eq (congrArg (fun b => AV.v (.bool b)) ?_)
   rw [Bool.eq_iff_iff]
   simp only [smI, decide_eq_true_eq, decide_eq_false_iff_not, Bool.or_eq_true, beq_iff_eq, Bool.false_eq_true, beq_eq_false_iff_ne, ne_eq, false_iff, true_iff, iff_true, iff_false, Bool.true_eq_false, not_and, not_or, Int.not_le, ge_iff_le] at *
   try omega
  ·
   simp only [List.set_cons_zero, List.set_cons_succ]
   iterate 3 (refine aops_chunk 1 fun Q0 q0 => ?_; simp only [↓bO, go_sem, seval]; refine q0 _ ?_; clear q0 Q0; simp only [go_sem])
   simp only [↓bO, go_sem, seval]
   refine y0 _ ?_
   try clear y0 Y0
   refine AWp_ret ?_
   try simp only [thenQ, blockQ, noGotoQ, retQ, aRes, tupOf, bS, bA]
   refine Le.of_eq (congrArg (fun b => AV.v (.bool b)) ?_)
   rw [Bool.eq_iff_iff]
   simp only [smI, decide_eq_true_eq, decide_eq_false_iff_not, Bool.or_eq_true, beq_iff_eq, Bool.false_eq_true, beq_eq_false_iff_ne, ne_eq, false_iff, true_iff, iff_true, iff_false, Bool.true_eq_false, not_and, not_or, Int.not_le, ge_iff_le] at *
   try omega
theorem RDigit_pure (c : Int) : APure Tryd.prog 62 [.v (.int .u8 c)] (.v (.bool (dgI c))) := by
  refine APure.mkL (.cons (.v _) .nil) (.v _) ?_
  refine ACalls_intro Tryd.func62 (by kernel_rfl) rfl (by rw [Tryd.ntmps62]; simp) (fun hm => ?_)
  simp only [Tryd.ntmps62, Tryd.results62, List.length_cons, List.length_nil, Nat.reduceAdd, Nat.reduceSub, List.replicate_succ, List.replicate_zero, List.cons_append, List.nil_append]
  refine AWp_seqK fun Y0 y0 => ?_
  refine AWp_region ?_
  simp only [↓bO, go_sem, seval]
  refine y0 _ ?_
  try clear y0 Y0
  refine AWp_seqK fun Y0 y0 => ?_
  refine AWp_region ?_
  iterate 3 (refine aops_chunk 1 fun Q0 q0 => ?_; simp only [↓bO, go_sem, seval]; refine q0 _ ?_; clear q0 Q0; simp only [go_sem])
  refine aops_case 5 rfl (fun hc5 => ?_) (fun hc5 => ?_)
  ·
   simp only [List.set_cons_zero, List.set_cons_succ]
   iterate 3 (refine aops_chunk 1 fun Q0 q0 => ?_; simp only [↓bO, go_sem, seval]; refine q0 _ ?_; clear q0 Q0; simp only [go_sem])
   simp only [↓bO, go_sem, seval]
   refine y0 _ ?_
   try clear y0 Y0
   refine AWp_ret ?_
   try simp only [thenQ, blockQ, noGotoQ, retQ, aRes, tupOf, bS, bA]
   refine Le.of_eq (congrArg (fun b => AV.v (.bool b)) ?_)
   rw [Bool.eq_iff_iff]
   simp only [dgI, decide_eq_true_eq, decide_eq_false_iff_not, Bool.or_eq_true, beq_iff_eq, Bool.false_eq_true, beq_eq_false_iff_ne, ne_eq, false_iff, true_iff, iff_true, iff_false, Bool.true_eq_false, not_and, not_or, Int.not_le, ge_iff_le] at *
   try omega
  ·
   simp only [List.set_cons_zero, List.set_cons_succ]
   iterate 3 (refine aops_chunk 1 fun Q0 q0 => ?_; simp only [↓bO, go_sem, seval]; refine q0 _ ?_; clear q0 Q0; simp only [go_sem])
   simp only [↓bO, go_sem, seval]
   refine y0 _ ?_
   try clear y0 Y0
   refine AWp_ret ?_
   try simp only [thenQ, blockQ, noGotoQ, retQ, aRes, tupOf, bS, bA]
   refine Le.of_eq (congrArg (fun b => AV.v (.bool b)) ?_)
   rw [Bool.eq_iff_iff]
   simp only [dgI, decide_eq_true_eq, decide_eq_false_iff_not, Bool.or_eq_true, beq_iff_eq, Bool.false_eq_true, beq_eq_false_iff_ne, ne_eq, false_iff, true_iff, iff_true, iff_false, Bool.true_eq_false, not_and, not_or, Int.not_le, ge_iff_le] at *
   try omega
theorem RInner_pure (c : Int) : APure Tryd.prog 49 [.v (.int .u8 c)] (.v (.bool (inI c))) := by
  refine APure.mkL (.cons (.v _) .nil) (.v _) ?_
  refine ACalls_intro Tryd.func49 (by kernel_rfl) rfl (by rw [Tryd.ntmps49]; simp) (fun hm => ?_)
  simp only [Tryd.ntmps49, Tryd.results49, List.length_cons, List.length_nil, Nat.reduceAdd, Nat.reduceSub, List.replicate_succ, List.replicate_zero, List.cons_append, List.nil_append]
  refine AWp_seqK fun Y0 y0 => ?_
  refine AWp_region ?_
  simp only [↓bO, go_sem, seval]
  refine y0 _ ?_
  try clear y0 Y0
  refine AWp_seqK fun Y0 y0 => ?_
  refine AWp_region ?_
  refine aops_chunk 1 fun Q0 q0 => ?_
  simp only [↓bO, go_sem, seval]
  refine q0 _ ?_
  clear q0 Q0
  simp only [go_sem]
  refine aops_chunk 1 fun Q0 q0 => ?_
  simp only [↓bO, go_sem, seval]
  refine APure.call (RLetter_pure c) ?_
  try simp only [bS, bA, thenQ, blockQ, noGotoQ]
  refine q0 _ ?_
  clear q0 Q0
  simp only [go_sem]
  refine aops_chunk 1 fun Q0 q0 => ?_
  simp only [↓bO, go_sem, seval]
  refine q0 _ ?_
  clear q0 Q0
  simp only [go_sem]
  refine aops_case 5 rfl (fun hc5 => ?_) (fun hc5 => ?_)
  ·
   simp only [List.set_cons_zero, List.set_cons_succ]
   iterate 7 (refine aops_chunk 1 fun Q0 q0 => ?_; simp only [↓bO, go_sem, seval]; refine q0 _ ?_; clear q0 Q0; simp only [go_sem])
   simp only [↓bO, go_sem, seval]
   refine y0 _ ?_
   try clear y0 Y0
   refine AWp_ret ?_
   try simp only [thenQ, blockQ, noGotoQ, retQ, aRes, tupOf, bS, bA]
   refine Le.of_eq (congrArg (fun b => AV.v (.bool b)) ?_)
   simp_all [inI]
  ·
   simp only [List.set_cons_zero, List.set_cons_succ]
   refine aops_chunk 1 fun Q0 q0 => ?_
   simp only [↓bO, go_sem, seval]
   refine q0 _ ?_
   clear q0 Q0
   simp only [go_sem]
   refine aops_chunk 1 fun Q0 q0 => ?_
   simp only [↓bO, go_sem, seval]
   refine APure.call (RDigit_pure c) ?_
   try simp only [bS, bA, thenQ, blockQ, noGotoQ]
   iterate 2 (refine q0 _ ?_; clear q0 Q0; simp only [go_sem]; refine aops_chunk 1 fun Q0 q0 => ?_; simp only [↓bO, go_sem, seval])
   refine q0 _ ?_
   clear q0 Q0
   simp only [go_sem]
   refine aops_case 9 rfl (fun hc9 => ?_) (fun hc9 => ?_)
   ·
    simp only [List.set_cons_zero, List.set_cons_succ]
    iterate 3 (refine aops_chunk 1 fun Q0 q0 => ?_; simp only [↓bO, go_sem, seval]; refine q0 _ ?_; clear q0 Q0; simp only [go_sem])
    simp only [↓bO, go_sem, seval]
    refine y0 _ ?_
    try clear y0 Y0
    refine AWp_ret ?_
    try simp only [thenQ, blockQ, noGotoQ, retQ, aRes, tupOf, bS, bA]
    refine Le.of_eq (congrArg (fun b => AV.v (.bool b)) ?_)
    simp_all [inI]
   ·
    simp only [List.set_cons_zero, List.set_cons_succ]
    iterate 3 (refine aops_chunk 1 fun Q0 q0 => ?_; simp only [↓bO, go_sem, seval]; refine q0 _ ?_; clear q0 Q0; simp only [go_sem])
    simp only [↓bO, go_sem, seval]
    refine y0 _ ?_
    try clear y0 Y0
    refine AWp_ret ?_
    try simp only [thenQ, blockQ, noGotoQ, retQ, aRes, tupOf, bS, bA]
    refine Le.of_eq (congrArg (fun b => AV.v (.bool b)) ?_)
    simp_all [inI]
def kwR : List ByteArray := [⟨#[102, 117, 110]⟩, ⟨#[108, 101, 116]⟩, ⟨#[114, 101, 99]⟩, ⟨#[105, 110]⟩, ⟨#[105, 102]⟩, ⟨#[116, 104, 101, 110]⟩, ⟨#[101, 108, 115, 101]⟩, ⟨#[116, 114, 117, 101]⟩, ⟨#[102, 97, 108, 115, 101]⟩, ⟨#[105, 110, 116]⟩, ⟨#[98, 111, 111, 108]⟩]
theorem bs11_1 : (11 * 1 ≤ 2 ^ 24) = True := eq_true (by decide)
theorem bs11_2 : (11 * 2 ≤ 2 ^ 24) = True := eq_true (by decide)
theorem bs11_3 : (11 * 3 ≤ 2 ^ 24) = True := eq_true (by decide)
theorem bs11_4 : (11 * 4 ≤ 2 ^ 24) = True := eq_true (by decide)
theorem bs11_5 : (11 * 5 ≤ 2 ^ 24) = True := eq_true (by decide)
theorem bs11_6 : (11 * 6 ≤ 2 ^ 24) = True := eq_true (by decide)
theorem bs11_7 : (11 * 7 ≤ 2 ^ 24) = True := eq_true (by decide)
theorem bs11_8 : (11 * 8 ≤ 2 ^ 24) = True := eq_true (by decide)
theorem bs11_9 : (11 * 9 ≤ 2 ^ 24) = True := eq_true (by decide)
theorem bs11_10 : (11 * 10 ≤ 2 ^ 24) = True := eq_true (by decide)
theorem bs11_11 : (11 * 11 ≤ 2 ^ 24) = True := eq_true (by decide)
theorem bs11_12 : (11 * 12 ≤ 2 ^ 24) = True := eq_true (by decide)
theorem kwR_eq : kwR = kwL := by kernel_rfl
theorem kwR_any (s : ByteArray) : (kwR.any fun x => eqS x s) = kwB s := by
  unfold kwB
  rw [kwR_eq]
  congr 1
  funext x
  rw [Bool.eq_iff_iff, eqS_iff, eqS_iff]
  exact eq_comm
theorem anyS_false {l : List ByteArray} {f : ByteArray → Bool} (h : ∀ (i : Nat) (p : ByteArray), i < l.length → l[i]? = some p → f p = false) : l.any f = false := any_false_of h
theorem RKey_pure (s : ByteArray) : APure Tryd.prog 51 [.v (.string s)] (.v (.bool (kwB s))) := by
  refine APure.mkL (.cons (.v _) .nil) (.v _) ?_
  refine ACalls_intro Tryd.func51 (by kernel_rfl) rfl (by rw [Tryd.ntmps51]; simp) (fun hm => ?_)
  simp only [Tryd.ntmps51, Tryd.results51, List.length_cons, List.length_nil, Nat.reduceAdd, Nat.reduceSub, List.replicate_succ, List.replicate_zero, List.cons_append, List.nil_append]
  refine AWp_seqK fun Y0 y0 => ?_
  refine AWp_region ?_
  simp only [↓bO, go_sem, seval]
  refine y0 _ ?_
  try clear y0 Y0
  refine AWp_seqK fun Y0 y0 => ?_
  refine AWp_region ?_
  refine aops_chunk 1 fun Q0 q0 => ?_
  simp only [↓bO, go_sem, seval, ↓bs11_1, ↓bs11_2, ↓bs11_3, ↓bs11_4, ↓bs11_5, ↓bs11_6, ↓bs11_7, ↓bs11_8, ↓bs11_9, ↓bs11_10, ↓bs11_11, ↓bs11_12]
  refine q0 _ ?_
  clear q0 Q0
  simp only [go_sem]
  simp only [↓bO, go_sem, seval]
  refine y0 _ ?_
  try clear y0 Y0
  refine AWp_seqK fun Y0 y0 => ?_
  refine AWp_seqK fun Y1 y1 => ?_
  refine AWp_region ?_
  simp only [↓bO, go_sem, seval]
  refine y1 _ ?_
  try clear y1 Y1
  refine AWp_block ?_
  refine AWp_loopM (σ := Nat) (mB 18 25) (fun z => z ≤ 11 ∧ ∀ (i : Nat) (p : ByteArray), i < z → kwR[i]? = some p → eqS p s = false) (fun z => [(3, .sl 1 (kwR.map strC)), (4, .v (.int .i64 (z : Int)))]) (fun z => []) (fun z => 11 - z) 0 (⟨by omega, fun i p hi => by omega⟩) ?_ (fun z hz => ?_)
  ·
   simp only [maskL, setsL, putsO, putO, mB, List.set_cons_zero, List.set_cons_succ, seval, kwR, bL, strC]
   exact Weak.mk (by simp only [go_sem, Le.refl, Le.any, Le.slNil, Int.natCast_add, Int.cast_ofNat_Int, Int.natCast_one]) (fun _ _ h => h) rfl rfl
  simp only [maskL, setsL, putsO, putO, mB, List.set_cons_zero, List.set_cons_succ, seval]
  refine AWp_seqK fun Y1 y1 => ?_
  refine AWp_seqK fun Y2 y2 => ?_
  refine AWp_region ?_
  iterate 3 (refine aops_chunk 1 fun Q0 q0 => ?_; simp only [↓bO, go_sem, seval]; refine q0 _ ?_; clear q0 Q0; simp only [go_sem])
  simp only [↓bO, go_sem, seval]
  refine y2 _ ?_
  try clear y2 Y2
  refine AWp_cond rfl (fun hb9 => ?_) (fun hb9 => ?_)
  ·
   have hk : z < kwR.length := by simpa using hb9
   have hk1 : z < 11 := hk
   obtain ⟨p, hp⟩ : ∃ p, kwR[z]? = some p := ⟨_, List.getElem?_eq_getElem hk⟩
   have hw : IntKind.i64.wrap ((z : Int) + 1) = (z : Int) + 1 := wrap_in (by omega) (by omega)
   refine AWp_skip ?_
   try simp only [thenQ, blockQ, noGotoQ]
   refine y1 _ ?_
   try clear y1 Y1
   refine AWp_seqK fun Y1 y1 => ?_
   refine AWp_block ?_
   refine AWp_seqK fun Y2 y2 => ?_
   refine AWp_region ?_
   iterate 5 (refine aops_chunk 1 fun Q0 q0 => ?_; simp only [↓bO, go_sem, seval, hk, gM hp, Int.natCast_add, hw, strC]; refine q0 _ ?_; clear q0 Q0; simp only [go_sem])
   simp only [↓bO, go_sem, seval, hk, gM hp, Int.natCast_add, hw, strC]
   refine y2 _ ?_
   try clear y2 Y2
   refine AWp_cond rfl (fun hb17 => ?_) (fun hb17 => ?_)
   ·
    refine AWp_seqK fun Y2 y2 => ?_
    refine AWp_region ?_
    simp only [↓bO, go_sem, seval, hk, gM hp, Int.natCast_add, hw, strC]
    refine y2 _ ?_
    try clear y2 Y2
    refine AWp_ret ?_
    try simp only [thenQ, blockQ, noGotoQ, retQ, aRes, tupOf, bS, bA]
    refine Le.of_eq (congrArg (fun b => AV.v (.bool b)) ?_)
    rw [← kwR_any]
    exact (all_not_of (f := fun x => eqS x s) hp hb17).symm
   ·
    refine AWp_skip ?_
    try simp only [thenQ, blockQ, noGotoQ]
    refine y1 _ ?_
    try clear y1 Y1
    refine AWp_region ?_
    iterate 2 (refine aops_chunk 1 fun Q0 q0 => ?_; simp only [↓bO, go_sem, seval, hk, gM hp, Int.natCast_add, hw, strC]; refine q0 _ ?_; clear q0 Q0; simp only [go_sem])
    simp only [↓bO, go_sem, seval, hk, gM hp, Int.natCast_add, hw, strC]
    refine ⟨(z + 1), ⟨by omega, fun i p' hi h1 => (by rcases Nat.lt_or_ge i z with h3 | h3 <;> first | exact hz.2 i p' h3 h1 | (obtain rfl : i = z := (by omega); rw [hp] at h1; cases h1; exact hb17))⟩, (by omega), ?_⟩
    simp only [maskL, setsL, putsO, putO, mB, List.set_cons_zero, List.set_cons_succ, seval, hk, gM hp, Int.natCast_add, Int.natCast_one, hw, strC]
    exact Weak.mk (by simp only [go_sem, Le.refl, Le.any, Le.slNil, Int.natCast_add, Int.cast_ofNat_Int, Int.natCast_one]) (fun _ _ h => h) rfl rfl
  ·
   have hk : ¬ z < kwR.length := by simpa using hb9
   have hk1 : z = 11 := by (have h9 : kwR.length = 11 := rfl; omega)
   refine AWp_exit ?_
   simp only [thenQ, blockQ, noGotoQ, bA, Nat.reduceEqDiff, ↓reduceIte]
   refine y0 _ ?_
   try clear y0 Y0
   refine AWp_seqK fun Y0 y0 => ?_
   refine AWp_region ?_
   simp only [↓bO, go_sem, seval]
   refine y0 _ ?_
   try clear y0 Y0
   refine AWp_ret ?_
   try simp only [thenQ, blockQ, noGotoQ, retQ, aRes, tupOf, bS, bA]
   refine Le.of_eq (congrArg (fun b => AV.v (.bool b)) ?_)
   rw [← kwR_any]
   exact (anyS_false fun i p hi h1 => hz.2 i p (by omega) h1).symm
def nameB (s : ByteArray) : Bool := decide (s.size ≠ 0) && smI ((s[0]?).getD 0).toNat && decide (runN s 0 inI = s.size) && decide (s.size ≤ 20) && !kwB s
theorem nameB_true {s : ByteArray} (h1 : ¬ s.size = 0) (h2 : smI ((s[0]?).getD 0).toNat = true) (h3 : runN s 0 inI = s.size) (h4 : s.size ≤ 20) (h5 : kwB s = false) : nameB s = true := by
  unfold nameB; simp [h1, h2, h3, h4, h5]
theorem nameB_false {s : ByteArray} (h : s.size = 0 ∨ smI ((s[0]?).getD 0).toNat = false ∨ ¬ runN s 0 inI = s.size ∨ ¬ s.size ≤ 20 ∨ kwB s = true) : nameB s = false := by
  unfold nameB
  rcases h with h | h | h | h | h <;> simp [h]
theorem size_zero {s : ByteArray} (h : s.toList == (⟨#[]⟩ : ByteArray).toList) : s.size = 0 := by
  have h1 : eqS s ⟨#[]⟩ = true := h
  rw [eqS_iff.1 h1]; rfl
theorem size_pos {s : ByteArray} (h : (s.toList == (⟨#[]⟩ : ByteArray).toList) = false) : 0 < s.size := by
  rcases Nat.eq_zero_or_pos s.size with h1 | h1
  · exfalso
    have h2 : s = ⟨#[]⟩ := ByteArray.ext (Array.eq_empty_of_size_eq_zero h1)
    rw [h2] at h
    simp at h
  · exact h1
theorem LName_pure (s : ByteArray) (hs : s.size ≤ 9223372036854775807) : APure Tryd.prog 33 [.v (.string s)] (.v (.bool (nameB s))) := by
  refine APure.mkL (.cons (.v _) .nil) (.v _) ?_
  refine ACalls_intro Tryd.func33 (by kernel_rfl) rfl (by rw [Tryd.ntmps33]; simp) (fun hm => ?_)
  simp only [Tryd.ntmps33, Tryd.results33, List.length_cons, List.length_nil, Nat.reduceAdd, Nat.reduceSub, List.replicate_succ, List.replicate_zero, List.cons_append, List.nil_append]
  refine AWp_seqK fun Y0 y0 => ?_
  refine AWp_region ?_
  simp only [↓bO, go_sem, seval]
  refine y0 _ ?_
  try clear y0 Y0
  refine AWp_seqK fun Y0 y0 => ?_
  refine AWp_region ?_
  iterate 3 (refine aops_chunk 1 fun Q0 q0 => ?_; simp only [↓bO, go_sem, seval]; refine q0 _ ?_; clear q0 Q0; simp only [go_sem])
  refine aops_case 5 rfl (fun hc5 => ?_) (fun hc5 => ?_)
  ·
   simp only [List.set_cons_zero, List.set_cons_succ]
   have hz : 0 < s.size := size_pos (by have h9 := hc5; simpa using h9)
   have hl0 : ((0 : Int) < (s.size : Int)) = True := eq_true (by omega)
   iterate 2 (refine aops_chunk 1 fun Q0 q0 => ?_; simp only [↓bO, go_sem, seval, hz, hl0]; refine q0 _ ?_; clear q0 Q0; simp only [go_sem])
   refine aops_chunk 1 fun Q0 q0 => ?_
   simp only [↓bO, go_sem, seval, hz, hl0]
   refine APure.call (small_pure _) ?_
   try simp only [bS, bA, thenQ, blockQ, noGotoQ]
   iterate 2 (refine q0 _ ?_; clear q0 Q0; simp only [go_sem]; refine aops_chunk 1 fun Q0 q0 => ?_; simp only [↓bO, go_sem, seval, hz, hl0])
   refine q0 _ ?_
   clear q0 Q0
   simp only [go_sem]
   refine aops_case 10 rfl (fun hc10 => ?_) (fun hc10 => ?_)
   ·
    simp only [List.set_cons_zero, List.set_cons_succ]
    have h1 : smI ((s[0]?).getD 0).toNat = true := (by have h9 := hc10; simpa using h9)
    refine aops_chunk 1 fun Q0 q0 => ?_
    simp only [↓bO, go_sem, seval, hz, hl0]
    refine q0 _ ?_
    clear q0 Q0
    simp only [go_sem]
    refine aops_chunk 1 fun Q0 q0 => ?_
    simp only [↓bO, go_sem, seval, hz, hl0]
    refine APure.call (run_pure s 0 46 inI inner_pure (by omega) (by omega)) ?_
    try simp only [bS, bA, thenQ, blockQ, noGotoQ]
    iterate 5 (refine q0 _ ?_; clear q0 Q0; simp only [go_sem]; refine aops_chunk 1 fun Q0 q0 => ?_; simp only [↓bO, go_sem, seval, hz, hl0])
    refine q0 _ ?_
    clear q0 Q0
    simp only [go_sem]
    refine aops_case 17 rfl (fun hc17 => ?_) (fun hc17 => ?_)
    ·
     simp only [List.set_cons_zero, List.set_cons_succ]
     have h2 : runN s 0 inI = s.size := (by have h9 := hc17; simp at h9; omega)
     iterate 5 (refine aops_chunk 1 fun Q0 q0 => ?_; simp only [↓bO, go_sem, seval, hz, hl0]; refine q0 _ ?_; clear q0 Q0; simp only [go_sem])
     refine aops_case 22 rfl (fun hc22 => ?_) (fun hc22 => ?_)
     ·
      simp only [List.set_cons_zero, List.set_cons_succ]
      have h3 : s.size ≤ 20 := (by have h9 := hc22; simp at h9; omega)
      refine aops_chunk 1 fun Q0 q0 => ?_
      simp only [↓bO, go_sem, seval, hz, hl0]
      refine q0 _ ?_
      clear q0 Q0
      simp only [go_sem]
      refine aops_chunk 1 fun Q0 q0 => ?_
      simp only [↓bO, go_sem, seval, hz, hl0]
      refine APure.call (Keyword_pure s) ?_
      try simp only [bS, bA, thenQ, blockQ, noGotoQ]
      iterate 2 (refine q0 _ ?_; clear q0 Q0; simp only [go_sem]; refine aops_chunk 1 fun Q0 q0 => ?_; simp only [↓bO, go_sem, seval, hz, hl0])
      refine q0 _ ?_
      clear q0 Q0
      simp only [go_sem]
      simp only [↓bO, go_sem, seval, hz, hl0]
      refine y0 _ ?_
      try clear y0 Y0
      refine AWp_ret ?_
      try simp only [thenQ, blockQ, noGotoQ, retQ, aRes, tupOf, bS, bA]
      refine Le.of_eq (congrArg (fun b => AV.v (.bool b)) ?_)
      cases hk : kwB s with | true => exact (nameB_false (.inr (.inr (.inr (.inr hk))))).symm | false => exact (nameB_true (by omega) h1 h2 h3 hk).symm
     ·
      simp only [List.set_cons_zero, List.set_cons_succ]
      have h3 : ¬ s.size ≤ 20 := (by have h9 := hc22; simp at h9; omega)
      iterate 4 (refine aops_chunk 1 fun Q0 q0 => ?_; simp only [↓bO, go_sem, seval, hz, hl0]; refine q0 _ ?_; clear q0 Q0; simp only [go_sem])
      simp only [↓bO, go_sem, seval, hz, hl0]
      refine y0 _ ?_
      try clear y0 Y0
      refine AWp_ret ?_
      try simp only [thenQ, blockQ, noGotoQ, retQ, aRes, tupOf, bS, bA]
      refine Le.of_eq (congrArg (fun b => AV.v (.bool b)) ?_)
      exact (nameB_false (.inr (.inr (.inr (.inl h3))))).symm
    ·
     simp only [List.set_cons_zero, List.set_cons_succ]
     have h2 : ¬ runN s 0 inI = s.size := (by have h9 := hc17; simp at h9; omega)
     iterate 9 (refine aops_chunk 1 fun Q0 q0 => ?_; simp only [↓bO, go_sem, seval, hz, hl0]; refine q0 _ ?_; clear q0 Q0; simp only [go_sem])
     simp only [↓bO, go_sem, seval, hz, hl0]
     refine y0 _ ?_
     try clear y0 Y0
     refine AWp_ret ?_
     try simp only [thenQ, blockQ, noGotoQ, retQ, aRes, tupOf, bS, bA]
     refine Le.of_eq (congrArg (fun b => AV.v (.bool b)) ?_)
     exact (nameB_false (.inr (.inr (.inl h2)))).symm
   ·
    simp only [List.set_cons_zero, List.set_cons_succ]
    have h1 : smI ((s[0]?).getD 0).toNat = false := (by have h9 := hc10; simpa using h9)
    iterate 16 (refine aops_chunk 1 fun Q0 q0 => ?_; simp only [↓bO, go_sem, seval, hz, hl0]; refine q0 _ ?_; clear q0 Q0; simp only [go_sem])
    simp only [↓bO, go_sem, seval, hz, hl0]
    refine y0 _ ?_
    try clear y0 Y0
    refine AWp_ret ?_
    try simp only [thenQ, blockQ, noGotoQ, retQ, aRes, tupOf, bS, bA]
    refine Le.of_eq (congrArg (fun b => AV.v (.bool b)) ?_)
    exact (nameB_false (.inr (.inl h1))).symm
  ·
   simp only [List.set_cons_zero, List.set_cons_succ]
   have h0 : s.size = 0 := size_zero (by have h9 := hc5; simpa using h9)
   iterate 21 (refine aops_chunk 1 fun Q0 q0 => ?_; simp only [↓bO, go_sem, seval]; refine q0 _ ?_; clear q0 Q0; simp only [go_sem])
   simp only [↓bO, go_sem, seval]
   refine y0 _ ?_
   try clear y0 Y0
   refine AWp_ret ?_
   try simp only [thenQ, blockQ, noGotoQ, retQ, aRes, tupOf, bS, bA]
   refine Le.of_eq (congrArg (fun b => AV.v (.bool b)) ?_)
   exact (nameB_false (.inl h0)).symm
theorem RName_pure (s : ByteArray) (hs : s.size ≤ 9223372036854775807) : APure Tryd.prog 35 [.v (.string s)] (.v (.bool (nameB s))) := by
  refine APure.mkL (.cons (.v _) .nil) (.v _) ?_
  refine ACalls_intro Tryd.func35 (by kernel_rfl) rfl (by rw [Tryd.ntmps35]; simp) (fun hm => ?_)
  simp only [Tryd.ntmps35, Tryd.results35, List.length_cons, List.length_nil, Nat.reduceAdd, Nat.reduceSub, List.replicate_succ, List.replicate_zero, List.cons_append, List.nil_append]
  refine AWp_seqK fun Y0 y0 => ?_
  refine AWp_region ?_
  simp only [↓bO, go_sem, seval]
  refine y0 _ ?_
  try clear y0 Y0
  refine AWp_seqK fun Y0 y0 => ?_
  refine AWp_seqK fun Y1 y1 => ?_
  refine AWp_region ?_
  simp only [↓bO, go_sem, seval]
  refine y1 _ ?_
  try clear y1 Y1
  refine AWp_block ?_
  refine AWp_loopM (σ := Nat) (mB 39 9) (fun k => k ≤ s.size ∧ (∀ i, i < k → inI ((s[0 + i]?).getD 0).toNat = true) ∧ (0 < k → smI ((s[0]?).getD 0).toNat = true)) (fun k => [(3, .v (.int .i64 (k : Int)))]) (fun k => []) (fun k => s.size - k) 0 (⟨by omega, fun i hi => by omega, fun h => by omega⟩) ?_ (fun k hk => ?_)
  ·
   try simp only [maskL, setsL, putsO, putO, mB, List.set_cons_zero, List.set_cons_succ, seval]
   exact Weak.mk (by simp only [go_sem, Le.refl, Le.any, Le.slNil, Int.natCast_add, Int.cast_ofNat_Int, Int.natCast_one]) (fun _ _ h => h) rfl rfl
  simp only [maskL, setsL, putsO, putO, mB, List.set_cons_zero, List.set_cons_succ, seval]
  refine AWp_seqK fun Y1 y1 => ?_
  refine AWp_seqK fun Y2 y2 => ?_
  refine AWp_region ?_
  iterate 3 (refine aops_chunk 1 fun Q0 q0 => ?_; simp only [↓bO, go_sem, seval]; refine q0 _ ?_; clear q0 Q0; simp only [go_sem])
  simp only [↓bO, go_sem, seval]
  refine y2 _ ?_
  try clear y2 Y2
  refine AWp_cond rfl (fun hb7 => ?_) (fun hb7 => ?_)
  ·
   have hlt : k < s.size := (by have h9 := hb7; simp at h9; omega)
   have hw : IntKind.i64.wrap ((k : Int) + 1) = ((k + 1 : Nat) : Int) := by (rw [wrap_in (by omega) (by omega)]; omega)
   refine AWp_skip ?_
   try simp only [thenQ, blockQ, noGotoQ]
   refine y1 _ ?_
   try clear y1 Y1
   refine AWp_seqK fun Y1 y1 => ?_
   refine AWp_block ?_
   refine AWp_seqK fun Y2 y2 => ?_
   refine AWp_region ?_
   iterate 3 (refine aops_chunk 1 fun Q0 q0 => ?_; simp only [↓bO, go_sem, seval, hlt, hw]; refine q0 _ ?_; clear q0 Q0; simp only [go_sem])
   refine aops_chunk 1 fun Q0 q0 => ?_
   simp only [↓bO, go_sem, seval, hlt, hw]
   refine APure.call (RInner_pure _) ?_
   try simp only [bS, bA, thenQ, blockQ, noGotoQ]
   iterate 2 (refine q0 _ ?_; clear q0 Q0; simp only [go_sem]; refine aops_chunk 1 fun Q0 q0 => ?_; simp only [↓bO, go_sem, seval, hlt, hw])
   refine q0 _ ?_
   clear q0 Q0
   simp only [go_sem]
   refine aops_case 15 rfl (fun hc15 => ?_) (fun hc15 => ?_)
   ·
    simp only [List.set_cons_zero, List.set_cons_succ]
    have hin : inI ((s[k]?).getD 0).toNat = false := (by have h9 := hc15; simpa using h9)
    have hno : s.size = 0 ∨ smI ((s[0]?).getD 0).toNat = false ∨ ¬ runN s 0 inI = s.size ∨ ¬ s.size ≤ 20 ∨ kwB s = true := .inr (.inr (.inl (by rw [runN_eq (n := k) (by omega) (fun i hi => hk.2.1 i hi) (fun _ => by rw [Nat.zero_add]; exact hin)]; omega)))
    iterate 9 (refine aops_chunk 1 fun Q0 q0 => ?_; simp only [↓bO, go_sem, seval, hlt, hw]; refine q0 _ ?_; clear q0 Q0; simp only [go_sem])
    simp only [↓bO, go_sem, seval, hlt, hw]
    refine y2 _ ?_
    try clear y2 Y2
    refine AWp_cond (b := true) (by first | exact rfl | exact congrArg (fun b => AV.v (.bool b)) hb25) (fun _ => ?_) (fun h => (by cases h))
    refine AWp_seqK fun Y2 y2 => ?_
    refine AWp_region ?_
    simp only [↓bO, go_sem, seval, hlt, hw]
    refine y2 _ ?_
    try clear y2 Y2
    refine AWp_ret ?_
    try simp only [thenQ, blockQ, noGotoQ, retQ, aRes, tupOf, bS, bA]
    refine Le.of_eq (congrArg (fun b => AV.v (.bool b)) ?_)
    exact (nameB_false hno).symm
   ·
    simp only [List.set_cons_zero, List.set_cons_succ]
    have hin : inI ((s[k]?).getD 0).toNat = true := (by have h9 := hc15; simpa using h9)
    iterate 3 (refine aops_chunk 1 fun Q0 q0 => ?_; simp only [↓bO, go_sem, seval, hlt, hw]; refine q0 _ ?_; clear q0 Q0; simp only [go_sem])
    refine aops_case 18 rfl (fun hc18 => ?_) (fun hc18 => ?_)
    ·
     simp only [List.set_cons_zero, List.set_cons_succ]
     have hk0 : k = 0 := (by have h9 := hc18; simp at h9; omega)
     iterate 3 (refine aops_chunk 1 fun Q0 q0 => ?_; simp only [↓bO, go_sem, seval, hlt, hw]; refine q0 _ ?_; clear q0 Q0; simp only [go_sem])
     refine aops_chunk 1 fun Q0 q0 => ?_
     simp only [↓bO, go_sem, seval, hlt, hw]
     refine APure.call (RLetter_pure _) ?_
     try simp only [bS, bA, thenQ, blockQ, noGotoQ]
     iterate 2 (refine q0 _ ?_; clear q0 Q0; simp only [go_sem]; refine aops_chunk 1 fun Q0 q0 => ?_; simp only [↓bO, go_sem, seval, hlt, hw])
     refine q0 _ ?_
     clear q0 Q0
     simp only [go_sem]
     simp only [↓bO, go_sem, seval, hlt, hw]
     refine y2 _ ?_
     try clear y2 Y2
     refine AWp_cond rfl (fun hb25 => ?_) (fun hb25 => ?_)
     ·
      have hsm : smI ((s[k]?).getD 0).toNat = false := (by have h9 := hb25; simpa using h9)
      have hno : s.size = 0 ∨ smI ((s[0]?).getD 0).toNat = false ∨ ¬ runN s 0 inI = s.size ∨ ¬ s.size ≤ 20 ∨ kwB s = true := .inr (.inl (by subst hk0; exact hsm))
      refine AWp_seqK fun Y2 y2 => ?_
      refine AWp_region ?_
      simp only [↓bO, go_sem, seval, hlt, hw]
      refine y2 _ ?_
      try clear y2 Y2
      refine AWp_ret ?_
      try simp only [thenQ, blockQ, noGotoQ, retQ, aRes, tupOf, bS, bA]
      refine Le.of_eq (congrArg (fun b => AV.v (.bool b)) ?_)
      exact (nameB_false hno).symm
     ·
      have hsm : smI ((s[k]?).getD 0).toNat = true := (by have h9 := hb25; simpa using h9)
      refine AWp_skip ?_
      try simp only [thenQ, blockQ, noGotoQ]
      refine y1 _ ?_
      try clear y1 Y1
      refine AWp_region ?_
      iterate 2 (refine aops_chunk 1 fun Q0 q0 => ?_; simp only [↓bO, go_sem, seval, hlt, hw]; refine q0 _ ?_; clear q0 Q0; simp only [go_sem])
      simp only [↓bO, go_sem, seval, hlt, hw]
      refine ⟨(k + 1), ⟨by omega, fun i hi => (by rcases Nat.lt_or_ge i k with h3 | h3 <;> first | exact hk.2.1 i h3 | (simpa using hk.2.1 i h3) | (obtain rfl : i = k := (by omega); simpa using hin)), fun _ => (by subst hk0; exact hsm)⟩, by omega, ?_⟩
      try simp only [maskL, setsL, putsO, putO, mB, List.set_cons_zero, List.set_cons_succ, seval, hlt, hw]
      exact Weak.mk (by simp only [go_sem, Le.refl, Le.any, Le.slNil, Int.natCast_add, Int.cast_ofNat_Int, Int.natCast_one]) (fun _ _ h => h) rfl rfl
    ·
     simp only [List.set_cons_zero, List.set_cons_succ]
     have hk0 : ¬ k = 0 := (by have h9 := hc18; simp at h9; omega)
     iterate 6 (refine aops_chunk 1 fun Q0 q0 => ?_; simp only [↓bO, go_sem, seval, hlt, hw]; refine q0 _ ?_; clear q0 Q0; simp only [go_sem])
     simp only [↓bO, go_sem, seval, hlt, hw]
     refine y2 _ ?_
     try clear y2 Y2
     refine AWp_cond (b := false) (by first | exact rfl | exact congrArg (fun b => AV.v (.bool b)) hb25) (fun h => (by cases h)) (fun _ => ?_)
     refine AWp_skip ?_
     try simp only [thenQ, blockQ, noGotoQ]
     refine y1 _ ?_
     try clear y1 Y1
     refine AWp_region ?_
     iterate 2 (refine aops_chunk 1 fun Q0 q0 => ?_; simp only [↓bO, go_sem, seval, hlt, hw]; refine q0 _ ?_; clear q0 Q0; simp only [go_sem])
     simp only [↓bO, go_sem, seval, hlt, hw]
     refine ⟨(k + 1), ⟨by omega, fun i hi => (by rcases Nat.lt_or_ge i k with h3 | h3 <;> first | exact hk.2.1 i h3 | (simpa using hk.2.1 i h3) | (obtain rfl : i = k := (by omega); simpa using hin)), fun _ => (hk.2.2 (by omega))⟩, by omega, ?_⟩
     try simp only [maskL, setsL, putsO, putO, mB, List.set_cons_zero, List.set_cons_succ, seval, hlt, hw]
     exact Weak.mk (by simp only [go_sem, Le.refl, Le.any, Le.slNil, Int.natCast_add, Int.cast_ofNat_Int, Int.natCast_one]) (fun _ _ h => h) rfl rfl
  ·
   have hge : ¬ k < s.size := (by have h9 := hb7; simp at h9; omega)
   have hrn : runN s 0 inI = s.size := runN_eq (by omega) (fun i hi => hk.2.1 i (by omega)) (fun h => absurd h (by omega))
   refine AWp_exit ?_
   simp only [thenQ, blockQ, noGotoQ, bA, Nat.reduceEqDiff, ↓reduceIte]
   refine y0 _ ?_
   try clear y0 Y0
   refine AWp_seqK fun Y0 y0 => ?_
   refine AWp_region ?_
   iterate 4 (refine aops_chunk 1 fun Q0 q0 => ?_; simp only [↓bO, go_sem, seval]; refine q0 _ ?_; clear q0 Q0; simp only [go_sem])
   refine aops_case 29 rfl (fun hc29 => ?_) (fun hc29 => ?_)
   ·
    simp only [List.set_cons_zero, List.set_cons_succ]
    have hz : 0 < s.size := by (have h9 := of_decide_eq_true hc29; omega)
    iterate 5 (refine aops_chunk 1 fun Q0 q0 => ?_; simp only [↓bO, go_sem, seval]; refine q0 _ ?_; clear q0 Q0; simp only [go_sem])
    refine aops_case 34 rfl (fun hc34 => ?_) (fun hc34 => ?_)
    ·
     simp only [List.set_cons_zero, List.set_cons_succ]
     have h3 : s.size ≤ 20 := (by have h9 := hc34; simp at h9; omega)
     refine aops_chunk 1 fun Q0 q0 => ?_
     simp only [↓bO, go_sem, seval]
     refine q0 _ ?_
     clear q0 Q0
     simp only [go_sem]
     refine aops_chunk 1 fun Q0 q0 => ?_
     simp only [↓bO, go_sem, seval]
     refine APure.call (RKey_pure s) ?_
     try simp only [bS, bA, thenQ, blockQ, noGotoQ]
     iterate 2 (refine q0 _ ?_; clear q0 Q0; simp only [go_sem]; refine aops_chunk 1 fun Q0 q0 => ?_; simp only [↓bO, go_sem, seval])
     refine q0 _ ?_
     clear q0 Q0
     simp only [go_sem]
     simp only [↓bO, go_sem, seval]
     refine y0 _ ?_
     try clear y0 Y0
     refine AWp_ret ?_
     try simp only [thenQ, blockQ, noGotoQ, retQ, aRes, tupOf, bS, bA]
     refine Le.of_eq (congrArg (fun b => AV.v (.bool b)) ?_)
     cases hkk : kwB s with | true => exact (nameB_false (.inr (.inr (.inr (.inr hkk))))).symm | false => exact (nameB_true (by omega) (hk.2.2 (by omega)) hrn h3 hkk).symm
    ·
     simp only [List.set_cons_zero, List.set_cons_succ]
     have h3 : ¬ s.size ≤ 20 := (by have h9 := hc34; simp at h9; omega)
     iterate 4 (refine aops_chunk 1 fun Q0 q0 => ?_; simp only [↓bO, go_sem, seval]; refine q0 _ ?_; clear q0 Q0; simp only [go_sem])
     simp only [↓bO, go_sem, seval]
     refine y0 _ ?_
     try clear y0 Y0
     refine AWp_ret ?_
     try simp only [thenQ, blockQ, noGotoQ, retQ, aRes, tupOf, bS, bA]
     refine Le.of_eq (congrArg (fun b => AV.v (.bool b)) ?_)
     exact (nameB_false (.inr (.inr (.inr (.inl h3))))).symm
   ·
    simp only [List.set_cons_zero, List.set_cons_succ]
    have h0 : s.size = 0 := by (have h9 := of_decide_eq_false hc29; omega)
    iterate 9 (refine aops_chunk 1 fun Q0 q0 => ?_; simp only [↓bO, go_sem, seval]; refine q0 _ ?_; clear q0 Q0; simp only [go_sem])
    simp only [↓bO, go_sem, seval]
    refine y0 _ ?_
    try clear y0 Y0
    refine AWp_ret ?_
    try simp only [thenQ, blockQ, noGotoQ, retQ, aRes, tupOf, bS, bA]
    refine Le.of_eq (congrArg (fun b => AV.v (.bool b)) ?_)
    exact (nameB_false (.inl h0)).symm
end Go.Proofs.YtmepcmphcghbeaaDoor
namespace Go.Proofs.YtmepcmphcghbeaaDoor
open Go Go.Shelf
def Tryd.laysM171_ren : Go.Shelf.Ren := ⟨fun | 171 => 34 | 243 => 48 | 246 => 61 | 283 => 72 | 284 => 73 | 285 => 74 | 286 => 75 | 129 => 84 | 317 => 83 | 318 => 85 | 319 => 86 | 320 => 87 | 337 => 93 | 338 => 94 | n => n, fun | 3 => 3 | 9 => 9 | 2 => 2 | 4 => 4 | 171 => 101 | 0 => 0 | 53 => 85 | 37 => 50 | 5 => 5 | 173 => 104 | 212 => 121 | 51 => 112 | 20 => 20 | 213 => 122 | 46 => 52 | 232 => 147 | 233 => 148 | n => n, fun | 17 => 4 | 18 => 7 | 19 => 8 | n => n⟩
theorem Tryd.laysM171 : Go.Proofs.LaysM.n171 Tryd.prog Tryd.laysM171_ren := {
  mixed := by kernel_rfl
  f129 := Tryd.func84.trans (congrArg some (by kernel_rfl))
  f171 := Tryd.func34.trans (congrArg some (by kernel_rfl))
  f243 := Tryd.func48.trans (congrArg some (by kernel_rfl))
  f246 := Tryd.func61.trans (congrArg some (by kernel_rfl))
  f283 := Tryd.func72.trans (congrArg some (by kernel_rfl))
  f284 := Tryd.func73.trans (congrArg some (by kernel_rfl))
  f285 := Tryd.func74.trans (congrArg some (by kernel_rfl))
  f286 := Tryd.func75.trans (congrArg some (by kernel_rfl))
  f317 := Tryd.func83.trans (congrArg some (by kernel_rfl))
  f318 := Tryd.func85.trans (congrArg some (by kernel_rfl))
  f319 := Tryd.func86.trans (congrArg some (by kernel_rfl))
  f320 := Tryd.func87.trans (congrArg some (by kernel_rfl))
  f337 := Tryd.func93.trans (congrArg some (by kernel_rfl))
  f338 := Tryd.func94.trans (congrArg some (by kernel_rfl))
  t0 := Tryd.underlying0
  a0 := Tryd.isAgg0
  z0 := Tryd.sizeOf0
  v0 := Tryd.zeroValue0
  t2 := Tryd.underlying2
  a2 := Tryd.isAgg2
  z2 := Tryd.sizeOf2
  v2 := Tryd.zeroValue2
  t3 := Tryd.underlying3
  a3 := Tryd.isAgg3
  z3 := Tryd.sizeOf3
  v3 := Tryd.zeroValue3
  t4 := Tryd.underlying4
  a4 := Tryd.isAgg4
  z4 := Tryd.sizeOf4
  v4 := Tryd.zeroValue4
  t5 := Tryd.underlying5
  a5 := Tryd.isAgg5
  z5 := Tryd.sizeOf5
  v5 := Tryd.zeroValue5
  t9 := Tryd.underlying9
  a9 := Tryd.isAgg9
  z9 := Tryd.sizeOf9
  v9 := Tryd.zeroValue9
  t20 := Tryd.underlying20
  a20 := Tryd.isAgg20
  z20 := Tryd.sizeOf20
  v20 := Tryd.zeroValue20
  t37 := Tryd.underlying50
  a37 := Tryd.isAgg50
  z37 := Tryd.sizeOf50
  v37 := Tryd.zeroValue50
  t46 := Tryd.underlying52
  a46 := Tryd.isAgg52
  z46 := Tryd.sizeOf52
  v46 := Tryd.zeroValue52
  t51 := Tryd.underlying112
  a51 := Tryd.isAgg112
  z51 := Tryd.sizeOf112
  v51 := Tryd.zeroValue112
  t53 := Tryd.underlying85
  a53 := Tryd.isAgg85
  z53 := Tryd.sizeOf85
  v53 := Tryd.zeroValue85
  t171 := Tryd.underlying101
  a171 := Tryd.isAgg101
  z171 := Tryd.sizeOf101
  v171 := Tryd.zeroValue101
  t173 := Tryd.underlying104
  a173 := Tryd.isAgg104
  z173 := Tryd.sizeOf104
  v173 := Tryd.zeroValue104
  t212 := Tryd.underlying121
  a212 := Tryd.isAgg121
  z212 := Tryd.sizeOf121
  v212 := Tryd.zeroValue121
  t213 := Tryd.underlying122
  a213 := Tryd.isAgg122
  z213 := Tryd.sizeOf122
  t232 := Tryd.underlying147
  a232 := Tryd.isAgg147
  z232 := Tryd.sizeOf147
  v232 := Tryd.zeroValue147
  t233 := Tryd.underlying148
  a233 := Tryd.isAgg148
  z233 := Tryd.sizeOf148
  v233 := Tryd.zeroValue148
  g17 := by kernel_rfl
  g18 := by kernel_rfl
  g19 := by kernel_rfl
  i0 := by kernel_rfl
  i2 := by kernel_rfl
  i3 := by kernel_rfl
  i4 := by kernel_rfl
  i5 := by kernel_rfl
  i9 := by kernel_rfl
  i20 := by kernel_rfl
  i37 := by kernel_rfl
  i46 := by kernel_rfl
  i51 := by kernel_rfl
  i53 := by kernel_rfl
  i171 := by kernel_rfl
  i173 := by kernel_rfl
  i212 := by kernel_rfl
  i232 := by kernel_rfl
  i233 := by kernel_rfl
  m17 := by kernel_rfl
  m18 := by kernel_rfl
  m19 := by kernel_rfl }
open Go.RowKit Go.Sort Go.Lib in
theorem Tryd.strconv_Itoa (n : Int) (h0 : -9223372036854775808 ≤ n) (h1 : n ≤ 9223372036854775807) (w : World) (htab : Lib.TabIs Tryd.prog w "internal/strconv.uint64pow10" .u64 Lib.pow10Tab) :
    Calls Tryd.prog 34 #[.int .i64 n] w fun e w' => e = .returned (.string ⟨(Lib.itoa n).toArray⟩) ∧ ∃ k os, w' = grow (w.drewN k) os := Any.strconv_Itoa Tryd.laysM171 n h0 h1 w htab
end Go.Proofs.YtmepcmphcghbeaaDoor
namespace Go.Proofs.YtmepcmphcghbeaaDoor
open Go Go.RowKit
set_option maxRecDepth 100000
set_option maxHeartbeats 4000000
set_option linter.unusedSimpArgs false
set_option linter.unnecessarySimpa false
set_option linter.unusedVariables false
attribute [local irreducible] aops dRun
theorem cut_three (a b c : Value) : Data (.tup [.v a, .v b, .v c]) := .tup (.cons (.v _) (.cons (.v _) (.cons (.v _) .nil)))
theorem cut_rp (E : Env) (A : Nat → Nat → Prop) (w : World) (a b c : Value) : Rp E A w (.tup [.v a, .v b, .v c]) (.tuple #[a, b, c]) := by
  refine .tup rfl fun i x u hc hu => ?_
  match i with
  | 0 => cases hc; cases hu; exact .v _
  | 1 => cases hc; cases hu; exact .v _
  | 2 => cases hc; cases hu; exact .v _
  | i + 3 => cases hc
theorem TCut_pure (s : ByteArray) (c : UInt8) (hs : s.size ≤ 1048576) : APure Tryd.prog 40 [.v (.string s), .v (.string ⟨#[c]⟩)] (.tup [.v (.string (ofL (Lib.cut s.data.toList [c]).1)), .v (.string (ofL (Lib.cut s.data.toList [c]).2.1)), .v (.bool (Lib.cut s.data.toList [c]).2.2)]) := by
  refine APure.ofCalls ⟨_, Tryd.func40, by kernel_rfl, by kernel_rfl⟩ (.cons (.v _) (.cons (.v _) .nil)) (cut_three _ _ _) fun E A w vs hgl hA hr => ?_
  obtain ⟨u, v, rfl, h1, h2⟩ := hr.two
  cases h1; cases h2
  obtain ⟨m, hm⟩ := hgl.has gw_MaxLen
  refine (Tryd.strings_Cut s ⟨#[c]⟩ m w (by omega) hm).mono ?_
  rintro e w' ⟨rfl, n, rfl⟩
  exact ⟨_, rfl, ⟨rfl, rfl, rfl, Nat.le_refl _, fun _ _ => rfl⟩, cut_rp _ _ _ _ _ _⟩
theorem Cont_pure (s : ByteArray) (c : UInt8) : APure Tryd.prog 32 [.v (.string s), .v (.string ⟨#[c]⟩)] (.v (.bool (decide (0 ≤ Lib.indexByte s.data.toList c)))) := by
  refine APure.ofCalls ⟨_, Tryd.func32, by kernel_rfl, by kernel_rfl⟩ (.cons (.v _) (.cons (.v _) .nil)) (.v _) fun E A w vs hgl hA hr => ?_
  obtain ⟨u, v, rfl, h1, h2⟩ := hr.two
  cases h1; cases h2
  refine (Tryd.strings_Contains_one s c w).mono ?_
  rintro e w' ⟨rfl, rfl⟩
  exact ⟨_, rfl, Below.refl _ _, .v _⟩
def itS (n : Int) : ByteArray := ofL (Lib.itoa n)
theorem TItoa_pure (n : Int) (h0 : -9223372036854775808 ≤ n) (h1 : n ≤ 9223372036854775807) : APure Tryd.prog 34 [.v (.int .i64 n)] (.v (.string (itS n))) := by
  refine APure.ofCalls ⟨_, Tryd.func34, by kernel_rfl, by kernel_rfl⟩ (.cons (.v _) .nil) (.v _) fun E A w vs hgl hA hr => ?_
  obtain ⟨u, rfl, h9⟩ := hr.one
  cases h9
  refine (Tryd.strconv_Itoa n h0 h1 w (hgl.tab gl_mem4 (by kernel_rfl) (by kernel_rfl))).mono ?_
  rintro e w' ⟨rfl, k, os, rfl⟩
  exact ⟨_, rfl, Lib.below_grow _ w (Nat.le_refl _) k os, .v _⟩
theorem itS_size (n : Int) (h0 : -9223372036854775808 ≤ n) (h1 : n ≤ 9223372036854775807) : (itS n).size ≤ 21 := by
  unfold itS; rw [ofL_size]; exact Lib.itoa_length_le n h0 h1
def dS : ByteArray := ⟨#[48, 49, 50, 51, 52, 53, 54, 55, 56, 57]⟩
theorem dS_ex {n : Nat} (h : n < 10) : dS.extract n (n + 1) = ofL [UInt8.ofNat (48 + n)] := by
  have : ∀ k : Fin 10, dS.extract k.val (k.val + 1) = ofL [UInt8.ofNat (48 + k.val)] := by decide
  exact this ⟨n, h⟩
theorem itS_one {n : Nat} (h : n < 10) : itS (n : Int) = ofL [UInt8.ofNat (48 + n)] := by
  unfold itS; rw [Lib.itoa_nonneg, Lib.decDigits_one h]
theorem itS_more {n : Nat} (h : ¬ n < 10) : itS (n : Int) = itS ((n / 10 : Nat) : Int) ++ ofL [UInt8.ofNat (48 + n % 10)] := by
  unfold itS
  rw [Lib.itoa_nonneg, Lib.itoa_nonneg, Lib.decDigits, dif_neg h, ofL_app]
theorem itS_min : itS (-9223372036854775808) = ⟨#[45, 57, 50, 50, 51, 51, 55, 50, 48, 51, 54, 56, 53, 52, 55, 55, 53, 56, 48, 56]⟩ := by kernel_rfl
theorem itS_neg {n : Nat} (h : 1 ≤ n) : itS (-(n : Int)) = (⟨#[45]⟩ : ByteArray) ++ itS (n : Int) := by
  unfold itS
  rw [Lib.itoa_nonneg, Lib.itoa_neg n h]
  exact (ofL_app [45] _).symm
theorem TDigits1_pure (n : Nat) (hn : n < 9223372036854775808) (ih : ¬ n < 10 → APure Tryd.prog 52 [.v (.int .i64 (n / 10 : Nat))] (.v (.string (itS (n / 10 : Nat))))) : APure Tryd.prog 52 [.v (.int .i64 n)] (.v (.string (itS n))) := by
  refine APure.mkL (.cons (.v _) .nil) (.v _) ?_
  refine ACalls_intro Tryd.func52 (by kernel_rfl) rfl (by rw [Tryd.ntmps52]; simp) (fun hm => ?_)
  simp only [Tryd.ntmps52, Tryd.results52, List.length_cons, List.length_nil, Nat.reduceAdd, Nat.reduceSub, List.replicate_succ, List.replicate_zero, List.cons_append, List.nil_append]
  have hx0 : ∀ m, (⟨(#[48, 49, 50, 51, 52, 53, 54, 55, 56, 57] : Array UInt8)⟩ : ByteArray).extract m (m + 1) = dS.extract m (m + 1) := fun m => rfl
  have ht : ((n : Int)).tdiv 10 = ((n / 10 : Nat) : Int) := by (rw [Int.tdiv_eq_ediv_of_nonneg (by omega)]; omega)
  have hm2 : ((n : Int)).tmod 10 = ((n % 10 : Nat) : Int) := by (rw [Int.tmod_eq_emod_of_nonneg (by omega)]; omega)
  have hw2 : IntKind.i64.wrap (((n % 10 : Nat) : Int)) = ((n % 10 : Nat) : Int) := by (rw [wrap_in (by omega) (by omega)])
  have hw3 : IntKind.i64.wrap (((n % 10 : Nat) : Int) + 1) = ((n % 10 + 1 : Nat) : Int) := by (rw [wrap_in (by omega) (by omega)]; omega)
  have hw4 : IntKind.i64.wrap (((n / 10 : Nat) : Int)) = ((n / 10 : Nat) : Int) := by (rw [wrap_in (by omega) (by omega)])
  have h2 : (((n % 10 : Nat) : Int) ≤ ((n % 10 + 1 : Nat) : Int)) = True := eq_true (by omega)
  have h3 : (((n % 10 + 1 : Nat) : Int) ≤ (((#[48, 49, 50, 51, 52, 53, 54, 55, 56, 57] : Array UInt8).size : Nat) : Int)) = True := eq_true (by (show ((n % 10 + 1 : Nat) : Int) ≤ 10); omega)
  have hz := itS_size ((n / 10 : Nat) : Int) (by omega) (by omega)
  have hx1 := dS_ex (n := n % 10) (by omega)
  have hz3 : (((itS ((n / 10 : Nat) : Int)).size + (ofL [UInt8.ofNat (48 + n % 10)]).size : Nat) : Int) ≤ IntKind.i64.max ↔ True := iff_true_intro (by (have g : (ofL [UInt8.ofNat (48 + n % 10)]).size = 1 := rfl); (show (((itS ((n / 10 : Nat) : Int)).size + (ofL [UInt8.ofNat (48 + n % 10)]).size : Nat) : Int) ≤ 9223372036854775807); omega)
  iterate 2 (refine AWp_seqK fun Y0 y0 => ?_; refine AWp_region ?_; simp only [↓bO, go_sem, seval, hx0, ht, hm2, hw2, hw3, hw4, h2, h3, hx1, hz3]; refine y0 _ ?_; (try clear y0 Y0))
  refine AWp_seqK fun Y0 y0 => ?_
  refine AWp_seqK fun Y1 y1 => ?_
  refine AWp_region ?_
  refine aops_chunk 1 fun Q0 q0 => ?_
  simp only [↓bO, go_sem, seval, hx0, ht, hm2, hw2, hw3, hw4, h2, h3, hx1, hz3]
  refine q0 _ ?_
  clear q0 Q0
  simp only [go_sem]
  simp only [↓bO, go_sem, seval, hx0, ht, hm2, hw2, hw3, hw4, h2, h3, hx1, hz3]
  refine y1 _ ?_
  try clear y1 Y1
  refine AWp_cond rfl (fun hb5 => ?_) (fun hb5 => ?_)
  ·
   have hlt : n < 10 := by (have h9 := hb5; simp at h9; omega)
   have hw1 : IntKind.i64.wrap ((n : Int) + 1) = ((n + 1 : Nat) : Int) := by (rw [wrap_in (by omega) (by omega)]; omega)
   have h1 : ((n : Int) ≤ ((n + 1 : Nat) : Int)) = True := eq_true (by omega)
   have h4 : (((n + 1 : Nat) : Int) ≤ (((#[48, 49, 50, 51, 52, 53, 54, 55, 56, 57] : Array UInt8).size : Nat) : Int)) = True := eq_true (by (show ((n + 1 : Nat) : Int) ≤ 10); omega)
   have hx2 := dS_ex hlt
   refine AWp_seqK fun Y1 y1 => ?_
   refine AWp_region ?_
   iterate 5 (refine aops_chunk 1 fun Q0 q0 => ?_; simp only [↓bO, go_sem, seval, hx0, ht, hm2, hw2, hw3, hw4, h2, h3, hx1, hz3, hw1, h1, h4, hx2]; refine q0 _ ?_; clear q0 Q0; simp only [go_sem])
   simp only [↓bO, go_sem, seval, hx0, ht, hm2, hw2, hw3, hw4, h2, h3, hx1, hz3, hw1, h1, h4, hx2]
   refine y1 _ ?_
   try clear y1 Y1
   refine AWp_ret ?_
   try simp only [thenQ, blockQ, noGotoQ, retQ, aRes, tupOf, bS, bA]
   refine Le.of_eq (congrArg (fun s => AV.v (.string s)) ?_)
   exact (itS_one hlt).symm
  ·
   have hge : ¬ n < 10 := by (have h9 := hb5; simp at h9; omega)
   refine AWp_skip ?_
   try simp only [thenQ, blockQ, noGotoQ]
   refine y0 _ ?_
   try clear y0 Y0
   refine AWp_seqK fun Y0 y0 => ?_
   refine AWp_drawK 11 mixed (by kernel_rfl) fun J0 j0 => ?_
   iterate 2 (simp only [go_sem]; refine dRun_chunk 1 fun Q0 q0 => ?_; simp only [↓dRun, ↓dOp, ↓bO, go_sem, seval, hx0, ht, hm2, hw2, hw3, hw4, h2, h3, hx1, hz3]; refine q0 _ ?_; clear q0 Q0)
   simp only [go_sem]
   refine dRun_chunk 1 fun Q0 q0 => ?_
   simp only [↓dRun, ↓dOp, ↓bO, go_sem, seval, hx0, ht, hm2, hw2, hw3, hw4, h2, h3, hx1, hz3]
   refine ⟨_, ih hge, ?_⟩
   try simp only [bS, bA, thenQ, blockQ, noGotoQ]
   iterate 7 (refine q0 _ ?_; clear q0 Q0; simp only [go_sem]; refine dRun_chunk 1 fun Q0 q0 => ?_; simp only [↓dRun, ↓dOp, ↓bO, go_sem, seval, hx0, ht, hm2, hw2, hw3, hw4, h2, h3, hx1, hz3])
   refine q0 _ ?_
   clear q0 Q0
   simp only [go_sem]
   simp only [↓dRun, ↓dOp, ↓bO, go_sem, seval, hx0, ht, hm2, hw2, hw3, hw4, h2, h3, hx1, hz3]
   refine j0 _ ?_
   clear j0 J0
   simp only [go_sem]
   simp only [↓bO, go_sem, seval, hx0, ht, hm2, hw2, hw3, hw4, h2, h3, hx1, hz3]
   refine y0 _ ?_
   try clear y0 Y0
   refine AWp_ret ?_
   try simp only [thenQ, blockQ, noGotoQ, retQ, aRes, tupOf, bS, bA]
   refine Le.of_eq (congrArg (fun s => AV.v (.string s)) ?_)
   exact (itS_more hge).symm
theorem TDigits_pure (n : Nat) (hn : n < 9223372036854775808) : APure Tryd.prog 52 [.v (.int .i64 n)] (.v (.string (itS n))) := by
  revert hn
  induction n using Nat.strongRecOn with
  | _ n ih => intro hn; exact TDigits1_pure n hn fun h => ih (n / 10) (by omega) (by omega)
theorem TInt_pure (n : Int) (h0 : -9223372036854775808 ≤ n) (h1 : n ≤ 9223372036854775807) : APure Tryd.prog 36 [.v (.int .i64 n)] (.v (.string (itS n))) := by
  refine APure.mkL (.cons (.v _) .nil) (.v _) ?_
  refine ACalls_intro Tryd.func36 (by kernel_rfl) rfl (by rw [Tryd.ntmps36]; simp) (fun hm => ?_)
  simp only [Tryd.ntmps36, Tryd.results36, List.length_cons, List.length_nil, Nat.reduceAdd, Nat.reduceSub, List.replicate_succ, List.replicate_zero, List.cons_append, List.nil_append]
  refine AWp_seqK fun Y0 y0 => ?_
  refine AWp_region ?_
  simp only [↓bO, go_sem, seval]
  refine y0 _ ?_
  try clear y0 Y0
  refine AWp_seqK fun Y0 y0 => ?_
  refine AWp_seqK fun Y1 y1 => ?_
  refine AWp_region ?_
  refine aops_chunk 1 fun Q0 q0 => ?_
  simp only [↓bO, go_sem, seval]
  refine q0 _ ?_
  clear q0 Q0
  simp only [go_sem]
  simp only [↓bO, go_sem, seval]
  refine y1 _ ?_
  try clear y1 Y1
  refine AWp_cond rfl (fun hb4 => ?_) (fun hb4 => ?_)
  ·
   have hnn : ((n.toNat : Nat) : Int) = n := by (have h9 := hb4; simp at h9; omega)
   refine AWp_seqK fun Y1 y1 => ?_
   refine AWp_region ?_
   refine aops_chunk 1 fun Q0 q0 => ?_
   simp only [↓bO, go_sem, seval]
   refine q0 _ ?_
   clear q0 Q0
   simp only [go_sem]
   refine aops_chunk 1 fun Q0 q0 => ?_
   simp only [↓bO, go_sem, seval]
   refine APure.call (by have h9 := TDigits_pure n.toNat (by omega); rw [hnn] at h9; exact h9) ?_
   try simp only [bS, bA, thenQ, blockQ, noGotoQ]
   refine q0 _ ?_
   clear q0 Q0
   simp only [go_sem]
   simp only [↓bO, go_sem, seval]
   refine y1 _ ?_
   try clear y1 Y1
   refine AWp_ret ?_
   try simp only [thenQ, blockQ, noGotoQ, retQ, aRes, tupOf, bS, bA]
   refine Le.of_eq (congrArg (fun s => AV.v (.string s)) ?_)
   rfl
  ·
   have hneg : n < 0 := by (have h9 := hb4; simp at h9; omega)
   refine AWp_skip ?_
   try simp only [thenQ, blockQ, noGotoQ]
   refine y0 _ ?_
   try clear y0 Y0
   refine AWp_seqK fun Y0 y0 => ?_
   refine AWp_seqK fun Y1 y1 => ?_
   refine AWp_region ?_
   refine aops_chunk 1 fun Q0 q0 => ?_
   simp only [↓bO, go_sem, seval]
   refine q0 _ ?_
   clear q0 Q0
   simp only [go_sem]
   simp only [↓bO, go_sem, seval]
   refine y1 _ ?_
   try clear y1 Y1
   refine AWp_cond rfl (fun hb8 => ?_) (fun hb8 => ?_)
   ·
    have hmin : n = -9223372036854775808 := by (have h9 := hb8; simp at h9; omega)
    refine AWp_seqK fun Y1 y1 => ?_
    refine AWp_region ?_
    simp only [↓bO, go_sem, seval]
    refine y1 _ ?_
    try clear y1 Y1
    refine AWp_ret ?_
    try simp only [thenQ, blockQ, noGotoQ, retQ, aRes, tupOf, bS, bA]
    refine Le.of_eq (congrArg (fun s => AV.v (.string s)) ?_)
    rw [hmin]; exact itS_min.symm
   ·
    have hnm : ¬ n = -9223372036854775808 := by (have h9 := hb8; simp at h9; omega)
    obtain ⟨m, hm⟩ : ∃ m : Nat, n = -(m : Int) := ⟨(-n).toNat, by omega⟩
    have hw : IntKind.i64.wrap (0 - n) = (m : Int) := by (rw [wrap_in (by omega) (by omega)]; omega)
    have hz := itS_size (m : Int) (by omega) (by omega)
    have hz3 : (((#[45] : Array UInt8).size + (itS (m : Int)).size : Nat) : Int) ≤ IntKind.i64.max ↔ True := iff_true_intro (by (show ((1 + (itS (m : Int)).size : Nat) : Int) ≤ 9223372036854775807); omega)
    refine AWp_skip ?_
    try simp only [thenQ, blockQ, noGotoQ]
    refine y0 _ ?_
    try clear y0 Y0
    refine AWp_seqK fun Y0 y0 => ?_
    refine AWp_region ?_
    iterate 2 (refine aops_chunk 1 fun Q0 q0 => ?_; simp only [↓bO, go_sem, seval, hw, hz3]; refine q0 _ ?_; clear q0 Q0; simp only [go_sem])
    refine aops_chunk 1 fun Q0 q0 => ?_
    simp only [↓bO, go_sem, seval, hw, hz3]
    refine APure.call (TDigits_pure m (by omega)) ?_
    try simp only [bS, bA, thenQ, blockQ, noGotoQ]
    refine q0 _ ?_
    clear q0 Q0
    simp only [go_sem]
    refine aops_chunk 1 fun Q0 q0 => ?_
    simp only [↓bO, go_sem, seval, hw, hz3]
    refine q0 _ ?_
    clear q0 Q0
    simp only [go_sem]
    simp only [↓bO, go_sem, seval, hw, hz3]
    refine y0 _ ?_
    try clear y0 Y0
    refine AWp_ret ?_
    try simp only [thenQ, blockQ, noGotoQ, retQ, aRes, tupOf, bS, bA]
    refine Le.of_eq (congrArg (fun s => AV.v (.string s)) ?_)
    rw [hm]; exact (itS_neg (by omega)).symm
structure ActT where
  k : Int
  name : ByteArray
  p1 : Int
  p2 : Int
  text : ByteArray
  n : Int
  lb : Int
  ld : Int
  le : Int
def ActT.cells (a : ActT) : List AV := [.v (.int .i64 a.k), .v (.string a.name), .v (.int .i64 a.p1), .v (.int .i64 a.p2), .v (.string a.text), .v (.int .i64 a.n), .v (.int .i64 a.lb), .v (.int .i64 a.ld), .v (.int .i64 a.le)]
theorem ActT.dataAgg (a : ActT) : Data (.agg a.cells) := .agg (.cons (.v _) (.cons (.v _) (.cons (.v _) (.cons (.v _) (.cons (.v _) (.cons (.v _) (.cons (.v _) (.cons (.v _) (.cons (.v _) .nil)))))))))
def kndB (k : Int) : Bool := decide (1 ≤ k) && decide (k < 8)
def ActT.none (k : Int) : ActT := ⟨k, ByteArray.empty, 0, 0, ByteArray.empty, 0, 0, 0, 0⟩
def bareS (a o : ActT) (c : Nat) : ActT :=
  if c = 110 then { o with name := a.name } else if c = 116 then { o with text := a.text } else if c = 102 then { o with p1 := a.p1 } else if c = 111 then { o with p2 := a.p2 } else if c = 117 then { o with n := a.n }
  else if c = 108 then { o with lb := a.lb, ld := a.ld, le := a.le } else o
def bareK (a : ActT) (u : ByteArray) (k : Nat) : ActT := (u.data.toList.take k).foldl (fun o c => bareS a o c.toNat) (ActT.none a.k)
def bareA (a : ActT) (u : ByteArray) : ActT := u.data.toList.foldl (fun o c => bareS a o c.toNat) (ActT.none a.k)
theorem bareK_zero (a : ActT) (u : ByteArray) : bareK a u 0 = ActT.none a.k := rfl
theorem bareK_succ {a : ActT} {u : ByteArray} {k : Nat} (h : k < u.size) {c : UInt8} (hc : (u[k]?).getD 0 = c) : bareK a u (k + 1) = bareS a (bareK a u k) c.toNat := by
  unfold bareK
  rw [tk_succ h hc, List.foldl_append]; rfl
theorem bareK_all {a : ActT} {u : ByteArray} {k : Nat} (h : ¬ k < u.size) : bareK a u k = bareA a u := by
  unfold bareK bareA
  rw [List.take_of_length_le (by rw [Array.length_toList]; show u.size ≤ k; omega)]
def ascB (u : ByteArray) : Bool := u.data.toList.all fun c => decide (c.toNat < 128)
theorem asc_at {u : ByteArray} (h : ascB u = true) {k : Nat} (hk : k < u.size) : Utf8.decode u k = (((u[k]?).getD 0).toNat, 1) := by
  have h1 := byte_at hk
  have h2 : ((u[k]?).getD 0).toNat < 128 := of_decide_eq_true (List.all_eq_true.1 h _ (List.mem_of_getElem? h1))
  have h3 : (u[k]?).getD 0 = u[k] := by rw [getElem?_pos u k hk]; rfl
  rw [h3] at h2 ⊢
  exact decode_ascii u k hk h2
theorem TKnown_pure (k : Int) : APure Tryd.prog 27 [.v (.int .i64 k)] (.v (.bool (kndB k))) := by
  refine APure.mkL (.cons (.v _) .nil) (.v _) ?_
  refine ACalls_intro Tryd.func27 (by kernel_rfl) rfl (by rw [Tryd.ntmps27]; simp) (fun hm => ?_)
  simp only [Tryd.ntmps27, Tryd.results27, List.length_cons, List.length_nil, Nat.reduceAdd, Nat.reduceSub, List.replicate_succ, List.replicate_zero, List.cons_append, List.nil_append]
  refine AWp_seqK fun Y0 y0 => ?_
  refine AWp_region ?_
  simp only [↓bO, go_sem, seval]
  refine y0 _ ?_
  try clear y0 Y0
  refine AWp_seqK fun Y0 y0 => ?_
  refine AWp_region ?_
  iterate 3 (refine aops_chunk 1 fun Q0 q0 => ?_; simp only [↓bO, go_sem, seval]; refine q0 _ ?_; clear q0 Q0; simp only [go_sem])
  refine aops_case 5 rfl (fun hc5 => ?_) (fun hc5 => ?_)
  ·
   simp only [List.set_cons_zero, List.set_cons_succ]
   iterate 3 (refine aops_chunk 1 fun Q0 q0 => ?_; simp only [↓bO, go_sem, seval]; refine q0 _ ?_; clear q0 Q0; simp only [go_sem])
   simp only [↓bO, go_sem, seval]
   refine y0 _ ?_
   try clear y0 Y0
   refine AWp_ret ?_
   try simp only [thenQ, blockQ, noGotoQ, retQ, aRes, tupOf, bS, bA]
   refine Le.of_eq (congrArg (fun b => AV.v (.bool b)) ?_)
   simp_all [kndB]
   try omega
  ·
   simp only [List.set_cons_zero, List.set_cons_succ]
   iterate 3 (refine aops_chunk 1 fun Q0 q0 => ?_; simp only [↓bO, go_sem, seval]; refine q0 _ ?_; clear q0 Q0; simp only [go_sem])
   simp only [↓bO, go_sem, seval]
   refine y0 _ ?_
   try clear y0 Y0
   refine AWp_ret ?_
   try simp only [thenQ, blockQ, noGotoQ, retQ, aRes, tupOf, bS, bA]
   refine Le.of_eq (congrArg (fun b => AV.v (.bool b)) ?_)
   simp_all [kndB]
   try omega
theorem TBare_pure (a : ActT) (u : ByteArray) (hu : ascB u = true) (hs : u.size ≤ 1048576) : APure Tryd.prog 31 [.agg a.cells, .v (.string u)] (.agg (bareA a u).cells) := by
  refine APure.mkL (.cons a.dataAgg (.cons (.v _) .nil)) ((ActT.dataAgg _)) ?_
  refine ACalls_intro Tryd.func31 (by kernel_rfl) rfl (by rw [Tryd.ntmps31]; simp) (fun hm => ?_)
  simp only [Tryd.ntmps31, Tryd.results31, List.length_cons, List.length_nil, Nat.reduceAdd, Nat.reduceSub, List.replicate_succ, List.replicate_zero, List.cons_append, List.nil_append]
  refine AWp_seqK fun Y0 y0 => ?_
  refine AWp_region ?_
  refine aops_chunk 1 fun Q0 q0 => ?_
  simp only [↓bO, go_sem, seval, ActT.cells]
  refine q0 _ ?_
  clear q0 Q0
  simp only [go_sem]
  simp only [↓bO, go_sem, seval, ActT.cells]
  refine y0 _ ?_
  try clear y0 Y0
  refine AWp_seqK fun Y0 y0 => ?_
  refine AWp_region ?_
  iterate 4 (refine aops_chunk 1 fun Q0 q0 => ?_; simp only [↓bO, go_sem, seval, ActT.cells]; refine q0 _ ?_; clear q0 Q0; simp only [go_sem])
  simp only [↓bO, go_sem, seval, ActT.cells]
  refine y0 _ ?_
  try clear y0 Y0
  refine AWp_seqK fun Y0 y0 => ?_
  refine AWp_seqK fun Y1 y1 => ?_
  refine AWp_region ?_
  refine aops_chunk 1 fun Q0 q0 => ?_
  simp only [↓bO, go_sem, seval, ActT.cells]
  refine q0 _ ?_
  clear q0 Q0
  simp only [go_sem]
  simp only [↓bO, go_sem, seval, aRange, ActT.cells]
  refine y1 _ ?_
  try clear y1 Y1
  refine AWp_block ?_
  refine AWp_loopM (σ := Nat) (mB 48 4148) (fun k => k ≤ u.size) (fun k => []) (fun k => [(2, .cells 30 (bareK a u k).cells), (3, .raw (.stringIter u k))]) (fun k => u.size - k) 0 (by omega) ?_ (fun k hk => ?_)
  ·
   try simp only [maskL, setsL, putsO, putO, mB, List.set_cons_zero, List.set_cons_succ, seval, bareK_zero, ActT.none]
   exact Weak.mk (by simp only [go_sem, Le.refl, Le.any, Le.slNil, Int.natCast_add, Int.cast_ofNat_Int, Int.natCast_one]) (fun _ _ h => h) rfl rfl
  simp only [maskL, setsL, putsO, putO, mB, List.set_cons_zero, List.set_cons_succ, seval]
  refine AWp_seqK fun Y1 y1 => ?_
  refine AWp_region ?_
  refine aops_chunk 1 fun Q0 q0 => ?_
  simp only [↓bO, go_sem, seval, aNext, aExtract_next, ActT.cells]
  refine q0 _ ?_
  clear q0 Q0
  simp only [go_sem]
  simp only [↓bO, go_sem, seval, aExtract_tup, ActT.cells, aExtract_next]
  refine y1 _ ?_
  try clear y1 Y1
  refine AWp_seqK fun Y1 y1 => ?_
  refine AWp_cond rfl (fun hb14 => ?_) (fun hb14 => ?_)
  ·
   have hlt : k < u.size := (by have h9 := hb14; simpa using h9)
   obtain ⟨c, hc⟩ : ∃ c, (u[k]?).getD 0 = c := ⟨_, rfl⟩
   have hda := asc_at hu hlt
   rw [hc] at hda
   have hnv : nextV u k = .tup [.v (.bool true), .v (.int .i64 (k : Int)), .v (.int .i32 (c.toNat : Int))] := by rw [nextV, if_pos hlt, hda]
   have hnp : nextP u k = k + 1 := by rw [nextP, if_pos hlt, hda]
   have hbk := bareK_succ (a := a) hlt hc
   refine AWp_skip ?_
   try simp only [thenQ, blockQ, noGotoQ]
   refine y1 _ ?_
   try clear y1 Y1
   refine AWp_block ?_
   refine AWp_seqK fun Y1 y1 => ?_
   refine AWp_region ?_
   refine aops_chunk 1 fun Q0 q0 => ?_
   simp only [↓bO, go_sem, seval, aExtract_tup, ActT.cells, aExtract_next, hnv, hnp, hbk]
   refine q0 _ ?_
   clear q0 Q0
   simp only [go_sem]
   simp only [↓bO, go_sem, seval, ActT.cells, aExtract_next, hnv, hnp, hbk]
   refine y1 _ ?_
   try clear y1 Y1
   refine AWp_seqK fun Y1 y1 => ?_
   refine AWp_region ?_
   simp only [↓bO, go_sem, seval, ActT.cells, aExtract_next, hnv, hnp, hbk]
   refine y1 _ ?_
   try clear y1 Y1
   refine AWp_block ?_
   refine AWp_seqK fun Y1 y1 => ?_
   refine AWp_region ?_
   refine aops_chunk 1 fun Q0 q0 => ?_
   simp only [↓bO, go_sem, seval, ActT.cells, aExtract_next, hnv, hnp, hbk]
   refine q0 _ ?_
   clear q0 Q0
   simp only [go_sem]
   simp only [↓bO, go_sem, seval, ActT.cells, aExtract_next, hnv, hnp, hbk]
   refine y1 _ ?_
   try clear y1 Y1
   refine AWp_cond rfl (fun hb17 => ?_) (fun hb17 => ?_)
   ·
    have e110 : c.toNat = 110 := (by have h9 := hb17; simp at h9; omega)
    have hnx : bareS a (bareK a u k) c.toNat = { bareK a u k with name := a.name } := by (unfold bareS; rw [if_pos e110])
    refine AWp_region ?_
    iterate 3 (refine aops_chunk 1 fun Q0 q0 => ?_; simp only [↓bO, go_sem, seval, ActT.cells, aExtract_next, hnv, hnp, hbk, hnx]; refine q0 _ ?_; clear q0 Q0; simp only [go_sem])
    simp only [↓bO, go_sem, seval, ActT.cells, aExtract_next, hnv, hnp, hbk, hnx]
    refine ⟨(k + 1), (by omega), by omega, ?_⟩
    try simp only [maskL, setsL, putsO, putO, mB, List.set_cons_zero, List.set_cons_succ, seval, ActT.cells, aExtract_next, hnv, hnp, hbk, hnx]
    exact Weak.mk (by simp only [go_sem, Le.refl, Le.any, Le.slNil, Int.natCast_add, Int.cast_ofNat_Int, Int.natCast_one]) (fun _ _ h => h) rfl rfl
   ·
    have e110 : ¬ c.toNat = 110 := (by have h9 := hb17; simp at h9; omega)
    refine AWp_seqK fun Y1 y1 => ?_
    refine AWp_region ?_
    refine aops_chunk 1 fun Q0 q0 => ?_
    simp only [↓bO, go_sem, seval, ActT.cells, aExtract_next, hnv, hnp, hbk]
    refine q0 _ ?_
    clear q0 Q0
    simp only [go_sem]
    simp only [↓bO, go_sem, seval, ActT.cells, aExtract_next, hnv, hnp, hbk]
    refine y1 _ ?_
    try clear y1 Y1
    refine AWp_cond rfl (fun hb22 => ?_) (fun hb22 => ?_)
    ·
     have e116 : c.toNat = 116 := (by have h9 := hb22; simp at h9; omega)
     have hnx : bareS a (bareK a u k) c.toNat = { bareK a u k with text := a.text } := by (unfold bareS; rw [if_neg (by omega), if_pos e116])
     refine AWp_region ?_
     iterate 3 (refine aops_chunk 1 fun Q0 q0 => ?_; simp only [↓bO, go_sem, seval, ActT.cells, aExtract_next, hnv, hnp, hbk, hnx]; refine q0 _ ?_; clear q0 Q0; simp only [go_sem])
     simp only [↓bO, go_sem, seval, ActT.cells, aExtract_next, hnv, hnp, hbk, hnx]
     refine ⟨(k + 1), (by omega), by omega, ?_⟩
     try simp only [maskL, setsL, putsO, putO, mB, List.set_cons_zero, List.set_cons_succ, seval, ActT.cells, aExtract_next, hnv, hnp, hbk, hnx]
     exact Weak.mk (by simp only [go_sem, Le.refl, Le.any, Le.slNil, Int.natCast_add, Int.cast_ofNat_Int, Int.natCast_one]) (fun _ _ h => h) rfl rfl
    ·
     have e116 : ¬ c.toNat = 116 := (by have h9 := hb22; simp at h9; omega)
     refine AWp_seqK fun Y1 y1 => ?_
     refine AWp_region ?_
     refine aops_chunk 1 fun Q0 q0 => ?_
     simp only [↓bO, go_sem, seval, ActT.cells, aExtract_next, hnv, hnp, hbk]
     refine q0 _ ?_
     clear q0 Q0
     simp only [go_sem]
     simp only [↓bO, go_sem, seval, ActT.cells, aExtract_next, hnv, hnp, hbk]
     refine y1 _ ?_
     try clear y1 Y1
     refine AWp_cond rfl (fun hb27 => ?_) (fun hb27 => ?_)
     ·
      have e102 : c.toNat = 102 := (by have h9 := hb27; simp at h9; omega)
      have hnx : bareS a (bareK a u k) c.toNat = { bareK a u k with p1 := a.p1 } := by (unfold bareS; rw [if_neg (by omega), if_neg (by omega), if_pos e102])
      refine AWp_region ?_
      iterate 3 (refine aops_chunk 1 fun Q0 q0 => ?_; simp only [↓bO, go_sem, seval, ActT.cells, aExtract_next, hnv, hnp, hbk, hnx]; refine q0 _ ?_; clear q0 Q0; simp only [go_sem])
      simp only [↓bO, go_sem, seval, ActT.cells, aExtract_next, hnv, hnp, hbk, hnx]
      refine ⟨(k + 1), (by omega), by omega, ?_⟩
      try simp only [maskL, setsL, putsO, putO, mB, List.set_cons_zero, List.set_cons_succ, seval, ActT.cells, aExtract_next, hnv, hnp, hbk, hnx]
      exact Weak.mk (by simp only [go_sem, Le.refl, Le.any, Le.slNil, Int.natCast_add, Int.cast_ofNat_Int, Int.natCast_one]) (fun _ _ h => h) rfl rfl
     ·
      have e102 : ¬ c.toNat = 102 := (by have h9 := hb27; simp at h9; omega)
      refine AWp_seqK fun Y1 y1 => ?_
      refine AWp_region ?_
      refine aops_chunk 1 fun Q0 q0 => ?_
      simp only [↓bO, go_sem, seval, ActT.cells, aExtract_next, hnv, hnp, hbk]
      refine q0 _ ?_
      clear q0 Q0
      simp only [go_sem]
      simp only [↓bO, go_sem, seval, ActT.cells, aExtract_next, hnv, hnp, hbk]
      refine y1 _ ?_
      try clear y1 Y1
      refine AWp_cond rfl (fun hb32 => ?_) (fun hb32 => ?_)
      ·
       have e111 : c.toNat = 111 := (by have h9 := hb32; simp at h9; omega)
       have hnx : bareS a (bareK a u k) c.toNat = { bareK a u k with p2 := a.p2 } := by (unfold bareS; rw [if_neg (by omega), if_neg (by omega), if_neg (by omega), if_pos e111])
       refine AWp_region ?_
       iterate 3 (refine aops_chunk 1 fun Q0 q0 => ?_; simp only [↓bO, go_sem, seval, ActT.cells, aExtract_next, hnv, hnp, hbk, hnx]; refine q0 _ ?_; clear q0 Q0; simp only [go_sem])
       simp only [↓bO, go_sem, seval, ActT.cells, aExtract_next, hnv, hnp, hbk, hnx]
       refine ⟨(k + 1), (by omega), by omega, ?_⟩
       try simp only [maskL, setsL, putsO, putO, mB, List.set_cons_zero, List.set_cons_succ, seval, ActT.cells, aExtract_next, hnv, hnp, hbk, hnx]
       exact Weak.mk (by simp only [go_sem, Le.refl, Le.any, Le.slNil, Int.natCast_add, Int.cast_ofNat_Int, Int.natCast_one]) (fun _ _ h => h) rfl rfl
      ·
       have e111 : ¬ c.toNat = 111 := (by have h9 := hb32; simp at h9; omega)
       refine AWp_seqK fun Y1 y1 => ?_
       refine AWp_region ?_
       refine aops_chunk 1 fun Q0 q0 => ?_
       simp only [↓bO, go_sem, seval, ActT.cells, aExtract_next, hnv, hnp, hbk]
       refine q0 _ ?_
       clear q0 Q0
       simp only [go_sem]
       simp only [↓bO, go_sem, seval, ActT.cells, aExtract_next, hnv, hnp, hbk]
       refine y1 _ ?_
       try clear y1 Y1
       refine AWp_cond rfl (fun hb37 => ?_) (fun hb37 => ?_)
       ·
        have e117 : c.toNat = 117 := (by have h9 := hb37; simp at h9; omega)
        have hnx : bareS a (bareK a u k) c.toNat = { bareK a u k with n := a.n } := by (unfold bareS; rw [if_neg (by omega), if_neg (by omega), if_neg (by omega), if_neg (by omega), if_pos e117])
        refine AWp_region ?_
        iterate 3 (refine aops_chunk 1 fun Q0 q0 => ?_; simp only [↓bO, go_sem, seval, ActT.cells, aExtract_next, hnv, hnp, hbk, hnx]; refine q0 _ ?_; clear q0 Q0; simp only [go_sem])
        simp only [↓bO, go_sem, seval, ActT.cells, aExtract_next, hnv, hnp, hbk, hnx]
        refine ⟨(k + 1), (by omega), by omega, ?_⟩
        try simp only [maskL, setsL, putsO, putO, mB, List.set_cons_zero, List.set_cons_succ, seval, ActT.cells, aExtract_next, hnv, hnp, hbk, hnx]
        exact Weak.mk (by simp only [go_sem, Le.refl, Le.any, Le.slNil, Int.natCast_add, Int.cast_ofNat_Int, Int.natCast_one]) (fun _ _ h => h) rfl rfl
       ·
        have e117 : ¬ c.toNat = 117 := (by have h9 := hb37; simp at h9; omega)
        refine AWp_seqK fun Y1 y1 => ?_
        refine AWp_region ?_
        refine aops_chunk 1 fun Q0 q0 => ?_
        simp only [↓bO, go_sem, seval, ActT.cells, aExtract_next, hnv, hnp, hbk]
        refine q0 _ ?_
        clear q0 Q0
        simp only [go_sem]
        simp only [↓bO, go_sem, seval, ActT.cells, aExtract_next, hnv, hnp, hbk]
        refine y1 _ ?_
        try clear y1 Y1
        refine AWp_cond rfl (fun hb42 => ?_) (fun hb42 => ?_)
        ·
         have e108 : c.toNat = 108 := (by have h9 := hb42; simp at h9; omega)
         have hnx : bareS a (bareK a u k) c.toNat = { bareK a u k with lb := a.lb, ld := a.ld, le := a.le } := by (unfold bareS; rw [if_neg (by omega), if_neg (by omega), if_neg (by omega), if_neg (by omega), if_neg (by omega), if_pos e108])
         refine AWp_region ?_
         iterate 3 (refine aops_chunk 1 fun Q0 q0 => ?_; simp only [↓bO, go_sem, seval, ActT.cells, aExtract_next, hnv, hnp, hbk, hnx]; refine q0 _ ?_; clear q0 Q0; simp only [go_sem])
         simp only [↓bO, go_sem, seval, ActT.cells, aExtract_next, hnv, hnp, hbk, hnx]
         refine ⟨(k + 1), (by omega), by omega, ?_⟩
         try simp only [maskL, setsL, putsO, putO, mB, List.set_cons_zero, List.set_cons_succ, seval, ActT.cells, aExtract_next, hnv, hnp, hbk, hnx]
         exact Weak.mk (by simp only [go_sem, Le.refl, Le.any, Le.slNil, Int.natCast_add, Int.cast_ofNat_Int, Int.natCast_one]) (fun _ _ h => h) rfl rfl
        ·
         have e108 : ¬ c.toNat = 108 := (by have h9 := hb42; simp at h9; omega)
         have hnx : bareS a (bareK a u k) c.toNat = bareK a u k := by (unfold bareS; rw [if_neg e110, if_neg e116, if_neg e102, if_neg e111, if_neg e117, if_neg e108])
         refine AWp_skip ?_
         try simp only [thenQ, blockQ, noGotoQ]
         refine ⟨(k + 1), (by omega), by omega, ?_⟩
         try simp only [maskL, setsL, putsO, putO, mB, List.set_cons_zero, List.set_cons_succ, seval, ActT.cells, aExtract_next, hnv, hnp, hbk, hnx]
         exact Weak.mk (by simp only [go_sem, Le.refl, Le.any, Le.slNil, Int.natCast_add, Int.cast_ofNat_Int, Int.natCast_one]) (fun _ _ h => h) rfl rfl
  ·
   have hge : ¬ k < u.size := (by have h9 := hb14; simpa using h9)
   have hba := bareK_all (a := a) hge
   refine AWp_exit ?_
   simp only [thenQ, blockQ, noGotoQ, bA, Nat.reduceEqDiff, ↓reduceIte]
   refine y0 _ ?_
   try clear y0 Y0
   refine AWp_seqK fun Y0 y0 => ?_
   refine AWp_region ?_
   refine aops_chunk 1 fun Q0 q0 => ?_
   simp only [↓bO, go_sem, seval, ActT.cells, hba]
   refine q0 _ ?_
   clear q0 Q0
   simp only [go_sem]
   simp only [↓bO, go_sem, seval, ActT.cells, hba]
   refine y0 _ ?_
   try clear y0 Y0
   refine AWp_ret ?_
   try simp only [thenQ, blockQ, noGotoQ, retQ, aRes, tupOf, bS, bA, aLoad, getO, pack, bL, Nat.reduceAdd, Nat.reduceLeDiff, Nat.reduceEqDiff, ↓reduceIte, ti30, ActT.cells, hba]
   exact Le.refl _
end Go.Proofs.YtmepcmphcghbeaaDoor
namespace Go.Proofs.YtmepcmphcghbeaaDoor
open Go Go.RowKit
set_option linter.unusedSimpArgs false
set_option linter.unnecessarySimpa false
set_option linter.unusedVariables false
open Go.Lib (decDigits decFrom digitVal)
theorem tdigVal {d : Nat} (h : d < 10) : digitVal (UInt8.ofNat (48 + d)) = some d := by
  have e : (UInt8.ofNat (48 + d)).toNat = 48 + d := by simp; omega
  unfold digitVal
  rw [e, if_pos ⟨by omega, by omega⟩]; congr 1; omega
theorem tdec_snoc {l : List UInt8} {a n d : Nat} {c : UInt8} (h : decFrom a l = some n) (hc : digitVal c = some d) : decFrom a (l ++ [c]) = some (n * 10 + d) := by
  have h1 := Lib.decFrom_take (l ++ [c]) l.length a n c d (by rw [List.take_left']; exact h; rfl) (by simp) hc
  rwa [show l.length + 1 = (l ++ [c]).length by simp, List.take_length] at h1
theorem tdec_more {n : Nat} (h : ¬ n < 10) : decDigits n = decDigits (n / 10) ++ [UInt8.ofNat (48 + n % 10)] := by rw [decDigits, dif_neg h]
theorem tdec_val : ∀ n : Nat, decFrom 0 (decDigits n) = some n := by
  intro n
  induction n using Nat.strongRecOn with
  | _ n ih =>
    by_cases h : n < 10
    · rw [Lib.decDigits_one h]
      simp only [decFrom, tdigVal h]; simp
    · rw [tdec_more h, tdec_snoc (ih (n / 10) (by omega)) (tdigVal (by omega))]
      congr 1; omega
theorem tdec_pos (n : Nat) : decDigits n ≠ [] := by
  by_cases h : n < 10
  · rw [Lib.decDigits_one h]; simp
  · rw [tdec_more h]; simp
theorem tdec_len : ∀ (k n : Nat), n < 10 ^ (k + 1) → (decDigits n).length ≤ k + 1
  | 0, n, h => by rw [Lib.decDigits_one (by simpa using h)]; simp
  | k + 1, n, h => by
    by_cases h9 : n < 10
    · rw [Lib.decDigits_one h9]; simp
    · rw [tdec_more h9]
      have := tdec_len k (n / 10) (by rw [Nat.pow_succ] at h; omega)
      simp only [List.length_append, List.length_cons, List.length_nil]; omega
theorem tdec_back : ∀ (k : Nat) (l : List UInt8), l.length = k → l ≠ [] → (∀ c ∈ l, 48 ≤ c.toNat ∧ c.toNat ≤ 57) → l.head? ≠ some 48 → ∃ v, decFrom 0 l = some v ∧ decDigits v = l ∧ 1 ≤ v := by
  intro k
  induction k with
  | zero => intro l h h1; exact absurd (List.eq_nil_of_length_eq_zero h) h1
  | succ k ih =>
    intro l hl h1 hd hh
    obtain ⟨l', c, rfl⟩ : ∃ l' c, l = l' ++ [c] := ⟨l.dropLast, l.getLast h1, (List.dropLast_concat_getLast h1).symm⟩
    have hc := hd c (by simp)
    have hlt : c.toNat - 48 < 10 := by omega
    have ec : UInt8.ofNat (48 + (c.toNat - 48)) = c := by
      apply UInt8.toNat_inj.1; simp; omega
    have hcv := tdigVal hlt
    rw [ec] at hcv
    by_cases h0 : l' = []
    · subst h0
      refine ⟨c.toNat - 48, ?_, ?_, ?_⟩
      · simp only [List.nil_append, decFrom, hcv]; simp
      · rw [Lib.decDigits_one hlt, ec]; rfl
      · rcases Nat.eq_zero_or_pos (c.toNat - 48) with h | h
        · exfalso; apply hh
          simp only [List.nil_append, List.head?_cons]
          congr 1; apply UInt8.toNat_inj.1
          show c.toNat = 48; omega
        · exact h
    · obtain ⟨v, g1, g2, g3⟩ := ih l' (by simpa using hl) h0 (fun x hx => hd x (by simp [hx])) (by
        cases l' with
        | nil => exact absurd rfl h0
        | cons a r => simpa using hh)
      refine ⟨v * 10 + (c.toNat - 48), tdec_snoc g1 hcv, ?_, by omega⟩
      rw [tdec_more (by omega), show (v * 10 + (c.toNat - 48)) / 10 = v by omega, show (v * 10 + (c.toNat - 48)) % 10 = c.toNat - 48 by omega, g2, ec]
theorem tdec_digs : ∀ n : Nat, ∀ c ∈ decDigits n, 48 ≤ c.toNat ∧ c.toNat ≤ 57 := by
  intro n
  induction n using Nat.strongRecOn with
  | _ n ih =>
    intro c hc
    have key : ∀ d : Nat, d < 10 → 48 ≤ (UInt8.ofNat (48 + d)).toNat ∧ (UInt8.ofNat (48 + d)).toNat ≤ 57 := fun d hd => by
      have e : (UInt8.ofNat (48 + d)).toNat = 48 + d := by simp; omega
      omega
    by_cases h : n < 10
    · rw [Lib.decDigits_one h] at hc
      obtain rfl := List.mem_singleton.1 hc; exact key n h
    · rw [tdec_more h] at hc
      rcases List.mem_append.1 hc with hc | hc
      · exact ih (n / 10) (by omega) c hc
      · obtain rfl := List.mem_singleton.1 hc; exact key (n % 10) (by omega)
theorem tdec_head : ∀ n : Nat, 1 ≤ n → (decDigits n).head? ≠ some 48 := by
  intro n
  induction n using Nat.strongRecOn with
  | _ n ih =>
    intro h1
    by_cases h : n < 10
    · rw [Lib.decDigits_one h]
      intro h9
      have h9 : UInt8.ofNat (48 + n) = 48 := by simpa using h9
      have h8 := congrArg UInt8.toNat h9
      have e : (UInt8.ofNat (48 + n)).toNat = 48 + n := by simp; omega
      rw [e] at h8
      have : (48 : UInt8).toNat = 48 := rfl
      omega
    · rw [tdec_more h]
      have := ih (n / 10) (by omega) (by omega)
      cases hd : decDigits (n / 10) with
      | nil => exact absurd hd (tdec_pos _)
      | cons a r => rw [hd] at this; simpa using this
theorem tdec_zero : decDigits 0 = [48] := Lib.decDigits_one (by decide)
theorem tdecFrom_ge : ∀ (l : List UInt8) (a v : Nat), decFrom a l = some v → a ≤ v
  | [], a, v, h => by simp only [decFrom, Option.some.injEq] at h; omega
  | c :: r, a, v, h => by
    simp only [decFrom] at h
    split at h
    · have := tdecFrom_ge r _ v h; omega
    · cases h
theorem tdecFrom_all : ∀ (l : List UInt8) (a : Nat), (∃ v, decFrom a l = some v) ↔ ∀ c ∈ l, 48 ≤ c.toNat ∧ c.toNat ≤ 57
  | [], a => ⟨fun _ => (fun c hc => nomatch hc), fun _ => ⟨a, rfl⟩⟩
  | c :: r, a => by
    simp only [decFrom, digitVal]
    by_cases h : 48 ≤ c.toNat ∧ c.toNat ≤ 57
    · rw [if_pos h]
      simp only
      rw [tdecFrom_all r]
      constructor
      · intro h1 x hx
        rcases List.mem_cons.1 hx with rfl | hx
        · exact h
        · exact h1 x hx
      · exact fun h1 x hx => h1 x (List.mem_cons_of_mem _ hx)
    · rw [if_neg h]
      constructor
      · rintro ⟨_, h1⟩; cases h1
      · exact fun h1 => absurd (h1 c (List.mem_cons_self ..)) h
theorem parseUint_of : ∀ (l : List UInt8) (a v : Nat), decFrom a l = some v → v < 18446744073709551616 → Lib.parseUint10 a l = .ok v
  | [], a, v, h, _ => by simp only [decFrom, Option.some.injEq] at h; rw [h]; rfl
  | c :: r, a, v, h, hv => by
    simp only [decFrom, digitVal] at h
    unfold Lib.parseUint10
    split at h
    · rename_i d hd
      split at hd
      · rename_i hc
        cases hd
        have hg := tdecFrom_ge r _ v h
        rw [if_pos hc, if_neg (by omega), if_neg (by omega)]
        exact parseUint_of r _ v h hv
      · cases hd
    · cases h
theorem parseMag_dec {n : Nat} (h : n < 18446744073709551616) : Lib.parseMag (decDigits n) = .ok n := by
  unfold Lib.parseMag
  rw [if_neg (tdec_pos n)]
  exact parseUint_of _ 0 n (tdec_val n) h
theorem atoi_itoa {n : Int} (h0 : -9223372036854775808 ≤ n) (h1 : n ≤ 9223372036854775807) : Lib.atoiAll (Lib.itoa n) = .ok n := by
  by_cases h : n < 0
  · obtain ⟨m, rfl⟩ : ∃ m : Nat, n = -(m : Int) := ⟨(-n).toNat, by omega⟩
    rw [Lib.itoa_neg m (by omega), Lib.atoiAll_minus, parseMag_dec (by omega)]
    simp only [Lib.signed]
    rw [if_neg (by omega)]
  · obtain ⟨m, rfl⟩ : ∃ m : Nat, n = (m : Int) := ⟨n.toNat, by omega⟩
    rw [Lib.itoa_nonneg m]
    cases hd : decDigits m with
    | nil => exact absurd hd (tdec_pos m)
    | cons c r =>
      have hc := tdec_digs m c (by rw [hd]; exact List.mem_cons_self ..)
      rw [Lib.atoiAll_plain c r (by omega) (by omega), ← hd, parseMag_dec (by omega)]
      simp only [Lib.signless]
      rw [if_neg (by omega)]
theorem wrapU {n : Int} (h1 : 0 ≤ n) (h2 : n < 18446744073709551616) : IntKind.u64.wrap n = n := by
  rw [IntKind.wrap_u64]; omega
def atV (l : List UInt8) : Int := match Lib.atoiAll l with | .ok v => v | .syntax => 0 | .range => Lib.atoiSat l
def atOk (l : List UInt8) : Bool := match Lib.atoiAll l with | .ok _ => true | _ => false
theorem atV_bounds (l : List UInt8) : -9223372036854775808 ≤ atV l ∧ atV l ≤ 9223372036854775807 := by
  unfold atV
  split
  · exact Lib.atoiAll_bounds (by assumption)
  · omega
  · exact Lib.atoiSat_bounds l
theorem at_itoa {n : Int} (h0 : -9223372036854775808 ≤ n) (h1 : n ≤ 9223372036854775807) : atV (Lib.itoa n) = n ∧ atOk (Lib.itoa n) = true := by
  unfold atV atOk
  rw [atoi_itoa h0 h1]
  exact ⟨rfl, rfl⟩
def nuD (l : List UInt8) : List UInt8 := if l.head? = some 45 then l.drop 1 else l
def nuBad (l : List UInt8) : Bool := decide ((nuD l).length < 1) || decide ((nuD l).length > 19) || (decide ((nuD l).head? = some 48) && !decide (l = [48]))
def nuV (l : List UInt8) (n : Nat) : Int × Bool :=
  if l.head? = some 45 then (IntKind.i64.wrap (IntKind.i64.wrap (0 - IntKind.i64.wrap (IntKind.u64.wrap ((n : Int) - 1))) - 1), decide ((n : Int) ≤ 9223372036854775808))
  else (IntKind.i64.wrap (n : Int), decide ((n : Int) ≤ 9223372036854775807))
def nuR (l : List UInt8) : Int × Bool :=
  if nuBad l = true then (0, false) else match decFrom 0 (nuD l) with
  | none => (0, false)
  | some n => nuV l n
theorem nuBad_no {l : List UInt8} (h1 : 1 ≤ (nuD l).length) (h2 : (nuD l).length ≤ 19) (h3 : (nuD l).head? = some 48 → l = [48]) : nuBad l = false := by
  unfold nuBad
  simp only [Bool.or_eq_false_iff, Bool.and_eq_false_iff, decide_eq_false_iff_not, Bool.not_eq_false', decide_eq_true_eq]
  refine ⟨⟨by omega, by omega⟩, ?_⟩
  by_cases h : (nuD l).head? = some 48
  · exact .inr (h3 h)
  · exact .inl h
theorem nu_neg {m : Nat} (h1 : 1 ≤ m) (h2 : m ≤ 9223372036854775808) : IntKind.i64.wrap (IntKind.i64.wrap (0 - IntKind.i64.wrap (IntKind.u64.wrap ((m : Int) - 1))) - 1) = -(m : Int) := by
  have e1 : IntKind.u64.wrap ((m : Int) - 1) = (m : Int) - 1 := wrapU (by omega) (by omega)
  have e2 : IntKind.i64.wrap ((m : Int) - 1) = (m : Int) - 1 := wrap_in (by omega) (by omega)
  have e3 : IntKind.i64.wrap (0 - ((m : Int) - 1)) = 0 - ((m : Int) - 1) := wrap_in (by omega) (by omega)
  rw [e1, e2, e3, wrap_in (by omega) (by omega)]
  omega
theorem nu_itoa {n : Int} (h0 : -9223372036854775808 ≤ n) (h1 : n ≤ 9223372036854775807) : nuR (Lib.itoa n) = (n, true) := by
  by_cases h : n < 0
  · obtain ⟨m, rfl⟩ : ∃ m : Nat, n = -(m : Int) := ⟨(-n).toNat, by omega⟩
    have hm : 1 ≤ m := by omega
    have hd : nuD (Lib.itoa (-(m : Int))) = decDigits m := by rw [Lib.itoa_neg m hm]; rfl
    have hh : (Lib.itoa (-(m : Int))).head? = some 45 := by rw [Lib.itoa_neg m hm]; rfl
    have hl := tdec_len 18 m (by omega)
    have hp := List.length_pos_iff.2 (tdec_pos m)
    unfold nuR
    rw [nuBad_no (by rw [hd]; omega) (by rw [hd]; omega) (fun h => absurd h (by rw [hd]; exact tdec_head m hm)), if_neg (by simp), hd, tdec_val]
    simp only [nuV]
    rw [if_pos hh, nu_neg hm (by omega)]
    simp only [Prod.mk.injEq, decide_eq_true_eq, true_and]
    omega
  · obtain ⟨m, rfl⟩ : ∃ m : Nat, n = (m : Int) := ⟨n.toNat, by omega⟩
    have hl := tdec_len 18 m (by omega)
    have hp := List.length_pos_iff.2 (tdec_pos m)
    have hh : ¬ (Lib.itoa (m : Int)).head? = some 45 := by
      rw [Lib.itoa_nonneg]
      cases hd : decDigits m with
      | nil => simp
      | cons c r =>
        have hc := tdec_digs m c (by rw [hd]; exact List.mem_cons_self ..)
        intro h9
        have h9 : c = 45 := by simpa using h9
        rw [h9] at hc; exact absurd hc.1 (by decide)
    have hd : nuD (Lib.itoa (m : Int)) = decDigits m := by unfold nuD; rw [if_neg hh, Lib.itoa_nonneg]
    unfold nuR
    have hb : nuBad (Lib.itoa (m : Int)) = false := by
      refine nuBad_no (by rw [hd]; omega) (by rw [hd]; omega) fun h => ?_
      rcases Nat.eq_zero_or_pos m with rfl | hm
      · rw [Lib.itoa_nonneg, tdec_zero]
      · exact absurd h (by rw [hd]; exact tdec_head m hm)
    rw [hb, if_neg (by simp), hd, tdec_val]
    simp only [nuV]
    rw [if_neg hh, wrap_in (by omega) (by omega)]
    simp only [Prod.mk.injEq, decide_eq_true_eq, true_and]
    omega
theorem itoa_nu {l : List UInt8} (h : (nuR l).2 = true) : Lib.itoa (nuR l).1 = l ∧ -9223372036854775808 ≤ (nuR l).1 ∧ (nuR l).1 ≤ 9223372036854775807 := by
  unfold nuR at h ⊢
  by_cases hb : nuBad l = true
  · rw [if_pos hb] at h; cases h
  · rw [if_neg hb] at h ⊢
    cases hv : decFrom 0 (nuD l) with
    | none => rw [hv] at h; cases h
    | some n =>
      rw [hv] at h
      simp only at h ⊢
      unfold nuBad at hb
      simp only [Bool.or_eq_true, Bool.and_eq_true, decide_eq_true_eq, Bool.not_eq_true', decide_eq_false_iff_not, not_or, not_and, Decidable.not_not] at hb
      obtain ⟨⟨b1, b2⟩, b3⟩ := hb
      have hdg := (tdecFrom_all (nuD l) 0).1 ⟨n, hv⟩
      have hne : nuD l ≠ [] := fun e => by rw [e] at b1; exact b1 (by simp)
      unfold nuV at h ⊢
      by_cases hm : l.head? = some 45
      · rw [if_pos hm] at h ⊢
        have hle : n ≤ 9223372036854775808 := by (have h9 := of_decide_eq_true h; omega)
        have h48 : (nuD l).head? ≠ some 48 := fun e => by rw [b3 e] at hm; cases hm
        obtain ⟨v, g1, g2, g3⟩ := tdec_back _ _ rfl hne hdg h48
        rw [hv] at g1; cases g1
        have hll : l = 45 :: nuD l := by
          cases l with
          | nil => cases hm
          | cons c r => have hc : c = 45 := by simpa using hm
                        subst hc; rfl
        simp only [nu_neg g3 hle]
        refine ⟨?_, by omega, by omega⟩
        rw [Lib.itoa_neg n g3, g2]; exact hll.symm
      · rw [if_neg hm] at h ⊢
        have hle : n ≤ 9223372036854775807 := by (have h9 := of_decide_eq_true h; omega)
        have hll : nuD l = l := by unfold nuD; rw [if_neg hm]
        rw [wrap_in (by omega) (by omega)]
        refine ⟨?_, by omega, by omega⟩
        rw [Lib.itoa_nonneg]
        by_cases h48 : (nuD l).head? = some 48
        · have e := b3 h48
          rw [hll, e] at hv
          have : n = 0 := by
            have h9 : decFrom 0 [48] = some 0 := by decide
            rw [h9] at hv; exact (Option.some.inj hv).symm
          rw [this, tdec_zero, e]
        · obtain ⟨v, g1, g2, g3⟩ := tdec_back _ _ rfl hne hdg h48
          rw [hv] at g1; cases g1
          rw [g2, hll]
theorem cut1_no {b : UInt8} {l : List UInt8} (h : ∀ c ∈ l, c ≠ b) : Lib.cut l [b] = (l, [], false) := by
  unfold Lib.cut
  rw [Lib.index_none (s := l) (sub := [b]) fun j hj => ?_, if_neg (by decide)]
  unfold Lib.occAt
  cases hd : l.drop j with
  | nil => rfl
  | cons c r =>
    have hc : c ∈ l := List.mem_of_mem_drop (i := j) (by rw [hd]; exact List.mem_cons_self ..)
    simp only [List.isPrefixOf, Bool.and_true, beq_eq_false_iff_ne]
    exact fun e => h c hc e.symm
theorem cut1_at {b : UInt8} {x r : List UInt8} (h : ∀ c ∈ x, c ≠ b) : Lib.cut (x ++ b :: r) [b] = (x, r, true) := by
  have hi : Lib.index (x ++ b :: r) [b] = x.length := by
    refine Lib.index_first (by simp) ?_ fun j hj => ?_
    · unfold Lib.occAt; rw [List.drop_left]; simp [List.isPrefixOf]
    · unfold Lib.occAt
      rw [List.drop_append_of_le_length (by omega), List.drop_eq_getElem_cons hj]
      simp only [List.cons_append, List.isPrefixOf, Bool.and_true, beq_eq_false_iff_ne]
      exact fun e => h _ (List.getElem_mem hj) e.symm
  unfold Lib.cut
  rw [hi, if_pos (by omega)]
  simp
theorem cut1_or (b : UInt8) : ∀ l : List UInt8, (∀ c ∈ l, c ≠ b) ∨ ∃ x r, l = x ++ b :: r ∧ ∀ c ∈ x, c ≠ b
  | [] => .inl fun _ h => by cases h
  | c :: l => by
    by_cases h : c = b
    · exact .inr ⟨[], l, by rw [h]; rfl, fun _ h => by cases h⟩
    · rcases cut1_or b l with h1 | ⟨x, r, rfl, h1⟩
      · exact .inl fun y hy => by
          rcases List.mem_cons.1 hy with rfl | hy
          · exact h
          · exact h1 y hy
      · exact .inr ⟨c :: x, r, rfl, fun y hy => by
          rcases List.mem_cons.1 hy with rfl | hy
          · exact h
          · exact h1 y hy⟩
def joinW : List (List UInt8) → List UInt8
  | [] => []
  | [w] => w
  | w :: v :: r => w ++ 32 :: joinW (v :: r)
def wordsL : Nat → List UInt8 → List (List UInt8)
  | 0, l => [l]
  | m + 1, l => if (Lib.cut l [32]).2.2 = true then (Lib.cut l [32]).1 :: wordsL m (Lib.cut l [32]).2.1 else [l]
theorem wordsL_ne : ∀ (m : Nat) (l : List UInt8), wordsL m l ≠ []
  | 0, l => by simp [wordsL]
  | m + 1, l => by unfold wordsL; split <;> simp
theorem wordsL_at {m : Nat} {x r : List UInt8} (h : ∀ c ∈ x, c ≠ 32) : wordsL (m + 1) (x ++ 32 :: r) = x :: wordsL m r := by
  rw [wordsL, cut1_at h, if_pos rfl]
theorem wordsL_no {m : Nat} {l : List UInt8} (h : ∀ c ∈ l, c ≠ 32) : wordsL m l = [l] := by
  cases m with
  | zero => rfl
  | succ m => unfold wordsL; rw [cut1_no h]; rfl
theorem join_words : ∀ (m : Nat) (l : List UInt8), joinW (wordsL m l) = l
  | 0, l => rfl
  | m + 1, l => by
    rcases cut1_or 32 l with h | ⟨x, r, rfl, h⟩
    · rw [wordsL_no h]; rfl
    · rw [wordsL_at h]
      have h1 := join_words m r
      cases hw : wordsL m r with
      | nil => exact absurd hw (wordsL_ne m r)
      | cons v t => rw [hw] at h1; simp only [joinW]; rw [h1]
end Go.Proofs.YtmepcmphcghbeaaDoor
namespace Go.Proofs.YtmepcmphcghbeaaDoor
open Go Go.RowKit
set_option linter.unusedSimpArgs false
set_option linter.unnecessarySimpa false
set_option linter.unusedVariables false
def tb (s : ByteArray) : List UInt8 := s.data.toList
theorem tb_ofL (l : List UInt8) : tb (ofL l) = l := rfl
theorem ofL_tb (s : ByteArray) : ofL (tb s) = s := ofL_back s
theorem tb_app (a b : ByteArray) : tb (a ++ b) = tb a ++ tb b := by simp [tb, ByteArray.data_append]
theorem tb_inj {a b : ByteArray} (h : tb a = tb b) : a = b := by rw [← ofL_tb a, ← ofL_tb b, h]
theorem tb_len (s : ByteArray) : (tb s).length = s.size := Array.length_toList
def quS (s : ByteArray) : ByteArray := ofL (quL (tb s))
def spS : ByteArray := ⟨#[32]⟩
def wdS (k : Int) : ByteArray :=
  if k = 1 then ⟨#[111, 112, 101, 110]⟩ else if k = 2 then ⟨#[101, 100, 105, 116]⟩ else if k = 3 then ⟨#[99, 108, 111, 115, 101]⟩ else if k = 4 then ⟨#[99, 104, 101, 99, 107]⟩
  else if k = 5 then ⟨#[114, 117, 110]⟩ else if k = 6 then ⟨#[108, 105, 109, 105, 116]⟩ else if k = 7 then ⟨#[108, 105, 115, 116]⟩ else ⟨#[]⟩
def usS (k : Int) : ByteArray :=
  if k = 1 then ⟨#[110, 116]⟩ else if k = 2 then ⟨#[110, 102, 111, 116]⟩ else if k = 3 then ⟨#[110]⟩ else if k = 4 then ⟨#[110]⟩
  else if k = 5 then ⟨#[110, 117]⟩ else if k = 6 then ⟨#[108]⟩ else ⟨#[]⟩
theorem kinds {k : Int} (h : kndB k = true) : k = 1 ∨ k = 2 ∨ k = 3 ∨ k = 4 ∨ k = 5 ∨ k = 6 ∨ k = 7 := by
  unfold kndB at h
  simp only [Bool.and_eq_true, decide_eq_true_eq] at h
  omega
def lineS (a : ActT) (w : ByteArray) (c : Nat) : ByteArray :=
  if c = 110 then w ++ (spS ++ a.name) else if c = 116 then w ++ (spS ++ quS a.text) else if c = 102 then w ++ (spS ++ itS a.p1) else if c = 111 then w ++ (spS ++ itS a.p2) else if c = 117 then w ++ (spS ++ itS a.n)
  else if c = 108 then w ++ (spS ++ itS a.lb ++ spS ++ itS a.ld ++ spS ++ itS a.le) else w
def lineF (a : ActT) (w : ByteArray) (l : List UInt8) : ByteArray := l.foldl (fun w c => lineS a w c.toNat) w
def ActT.ws (a : ActT) : List (List UInt8) :=
  if a.k = 1 then [tb (wdS 1), tb a.name, quL (tb a.text)] else if a.k = 2 then [tb (wdS 2), tb a.name, Lib.itoa a.p1, Lib.itoa a.p2, quL (tb a.text)]
  else if a.k = 3 then [tb (wdS 3), tb a.name] else if a.k = 4 then [tb (wdS 4), tb a.name] else if a.k = 5 then [tb (wdS 5), tb a.name, Lib.itoa a.n]
  else if a.k = 6 then [tb (wdS 6), Lib.itoa a.lb, Lib.itoa a.ld, Lib.itoa a.le] else [tb (wdS 7)]
def ActT.e1 (a : ActT) : Prop := a.k < 1 ∨ a.k > 7 ∨ (¬ (1 ≤ a.k ∧ a.k ≤ 5) ∧ a.name.size ≠ 0) ∨ ((1 ≤ a.k ∧ a.k ≤ 5) ∧ nameB a.name = false)
def ActT.e2 (a : ActT) : Prop := (a.k ≠ 2 ∧ (a.p1 ≠ 0 ∨ a.p2 ≠ 0)) ∨ (a.k > 2 ∧ a.text.size ≠ 0) ∨ (a.k ≠ 5 ∧ a.n ≠ 0) ∨ (a.k ≠ 6 ∧ ¬ (a.lb = 0 ∧ a.ld = 0 ∧ a.le = 0))
instance decE1 (a : ActT) : Decidable a.e1 := by unfold ActT.e1; infer_instance
instance decE2 (a : ActT) : Decidable a.e2 := by unfold ActT.e2; infer_instance
def ActT.err (a : ActT) : Int := if a.e1 then 1 else if a.e2 then 1 else if a.text.size > 4096 then 2 else 0
def ActT.text' (a : ActT) : ByteArray := ofL (joinW a.ws)
def ActT.line (a : ActT) : ByteArray := if a.err = 0 then a.text' else ByteArray.empty
def I64 (n : Int) : Prop := -9223372036854775808 ≤ n ∧ n ≤ 9223372036854775807
theorem I64.zero : I64 0 := ⟨by decide, by decide⟩
def ActT.fits (a : ActT) : Prop := I64 a.p1 ∧ I64 a.p2 ∧ I64 a.n ∧ I64 a.lb ∧ I64 a.ld ∧ I64 a.le
theorem itS_tb (n : Int) : tb (itS n) = Lib.itoa n := rfl
theorem lineF_all {a : ActT} (h : kndB a.k = true) : lineF a (wdS a.k) (tb (usS a.k)) = a.text' := by
  obtain ⟨k, name, p1, p2, text, n, lb, ld, le⟩ := a
  simp only at h ⊢
  apply tb_inj
  rcases kinds h with rfl | rfl | rfl | rfl | rfl | rfl | rfl
  · show tb (lineS _ (lineS _ (wdS 1) 110) 116) = _
    simp only [lineS, if_pos, Nat.reduceEqDiff, ↓reduceIte, tb_app, ActT.text', tb_ofL, ActT.ws, joinW, quS]
    simp [spS, tb]
  · show tb (lineS _ (lineS _ (lineS _ (lineS _ (wdS 2) 110) 102) 111) 116) = _
    simp only [lineS, if_pos, Nat.reduceEqDiff, ↓reduceIte, tb_app, ActT.text', tb_ofL, ActT.ws, joinW, quS, itS_tb, Int.reduceEq]
    simp [spS, tb]
  · show tb (lineS _ (wdS 3) 110) = _
    simp only [lineS, if_pos, Nat.reduceEqDiff, ↓reduceIte, tb_app, ActT.text', tb_ofL, ActT.ws, joinW, quS, itS_tb, Int.reduceEq]
    simp [spS, tb]
  · show tb (lineS _ (wdS 4) 110) = _
    simp only [lineS, if_pos, Nat.reduceEqDiff, ↓reduceIte, tb_app, ActT.text', tb_ofL, ActT.ws, joinW, quS, itS_tb, Int.reduceEq]
    simp [spS, tb]
  · show tb (lineS _ (lineS _ (wdS 5) 110) 117) = _
    simp only [lineS, if_pos, Nat.reduceEqDiff, ↓reduceIte, tb_app, ActT.text', tb_ofL, ActT.ws, joinW, quS, itS_tb, Int.reduceEq]
    simp [spS, tb]
  · show tb (lineS _ (wdS 6) 108) = _
    simp only [lineS, if_pos, Nat.reduceEqDiff, ↓reduceIte, tb_app, ActT.text', tb_ofL, ActT.ws, joinW, quS, itS_tb, Int.reduceEq]
    simp [spS, tb]
  · show tb (wdS 7) = _
    simp only [ActT.text', tb_ofL, ActT.ws, joinW, ↓reduceIte, Int.reduceEq]
def ActT.eqB (a b : ActT) : Bool := a.k == b.k && (a.name.toList == b.name.toList && (a.p1 == b.p1 && (a.p2 == b.p2 && (a.text.toList == b.text.toList && (a.n == b.n && (a.lb == b.lb && (a.ld == b.ld && a.le == b.le)))))))
theorem eqL_iff {a b : ByteArray} : (a.toList == b.toList) = true ↔ a = b := eqS_iff
theorem ActT.eqB_iff {a b : ActT} : a.eqB b = true ↔ a = b := by
  obtain ⟨k, name, p1, p2, text, n, lb, ld, le⟩ := a
  obtain ⟨k', name', p1', p2', text', n', lb', ld', le'⟩ := b
  unfold ActT.eqB
  simp only [Bool.and_eq_true, beq_iff_eq, ActT.mk.injEq]
  rw [← beq_iff_eq (a := name.toList), ← beq_iff_eq (a := text.toList), eqL_iff, eqL_iff]
def ActT.no (a : ActT) : Bool := !a.eqB (bareA a (usS a.k)) || (decide (0 ≤ Lib.indexByte (tb (usS a.k)) 110) && !nameB a.name)
theorem size0 {s : ByteArray} : s.size = 0 ↔ s = ByteArray.empty := by
  constructor
  · intro h
    apply tb_inj
    have := tb_len s
    rw [h] at this
    rw [List.eq_nil_of_length_eq_zero this]; rfl
  · rintro rfl; rfl
theorem ActT.no_iff {a : ActT} (h : kndB a.k = true) : a.no = true ↔ a.e1 ∨ a.e2 := by
  obtain ⟨k, name, p1, p2, text, n, lb, ld, le⟩ := a
  simp only at h
  unfold ActT.no
  simp only [Bool.or_eq_true, Bool.and_eq_true, Bool.not_eq_true', decide_eq_true_eq]
  rw [← Bool.not_eq_true, ActT.eqB_iff]
  rcases kinds h with rfl | rfl | rfl | rfl | rfl | rfl | rfl
  · have e : bareA ⟨1, name, p1, p2, text, n, lb, ld, le⟩ (usS 1) = ⟨1, name, 0, 0, text, 0, 0, 0, 0⟩ := rfl
    have i : (0 ≤ Lib.indexByte (tb (usS 1)) 110) = True := eq_true (by decide)
    simp only [e, i, ActT.e1, ActT.e2, ActT.mk.injEq, true_and, and_true, Ne, size0]
    grind
  · have e : bareA ⟨2, name, p1, p2, text, n, lb, ld, le⟩ (usS 2) = ⟨2, name, p1, p2, text, 0, 0, 0, 0⟩ := rfl
    have i : (0 ≤ Lib.indexByte (tb (usS 2)) 110) = True := eq_true (by decide)
    simp only [e, i, ActT.e1, ActT.e2, ActT.mk.injEq, true_and, and_true, Ne, size0]
    grind
  · have e : bareA ⟨3, name, p1, p2, text, n, lb, ld, le⟩ (usS 3) = ⟨3, name, 0, 0, ByteArray.empty, 0, 0, 0, 0⟩ := rfl
    have i : (0 ≤ Lib.indexByte (tb (usS 3)) 110) = True := eq_true (by decide)
    simp only [e, i, ActT.e1, ActT.e2, ActT.mk.injEq, true_and, and_true, Ne, size0]
    grind
  · have e : bareA ⟨4, name, p1, p2, text, n, lb, ld, le⟩ (usS 4) = ⟨4, name, 0, 0, ByteArray.empty, 0, 0, 0, 0⟩ := rfl
    have i : (0 ≤ Lib.indexByte (tb (usS 4)) 110) = True := eq_true (by decide)
    simp only [e, i, ActT.e1, ActT.e2, ActT.mk.injEq, true_and, and_true, Ne, size0]
    grind
  · have e : bareA ⟨5, name, p1, p2, text, n, lb, ld, le⟩ (usS 5) = ⟨5, name, 0, 0, ByteArray.empty, n, 0, 0, 0⟩ := rfl
    have i : (0 ≤ Lib.indexByte (tb (usS 5)) 110) = True := eq_true (by decide)
    simp only [e, i, ActT.e1, ActT.e2, ActT.mk.injEq, true_and, and_true, Ne, size0]
    grind
  · have e : bareA ⟨6, name, p1, p2, text, n, lb, ld, le⟩ (usS 6) = ⟨6, ByteArray.empty, 0, 0, ByteArray.empty, 0, lb, ld, le⟩ := rfl
    have i : (0 ≤ Lib.indexByte (tb (usS 6)) 110) = False := eq_false (by decide)
    simp only [e, i, ActT.e1, ActT.e2, ActT.mk.injEq, true_and, and_true, Ne, size0]
    grind
  · have e : bareA ⟨7, name, p1, p2, text, n, lb, ld, le⟩ (usS 7) = ⟨7, ByteArray.empty, 0, 0, ByteArray.empty, 0, 0, 0, 0⟩ := rfl
    have i : (0 ≤ Lib.indexByte (tb (usS 7)) 110) = False := eq_false (by decide)
    simp only [e, i, ActT.e1, ActT.e2, ActT.mk.injEq, true_and, and_true, Ne, size0]
    grind
theorem ActT.err_bad {a : ActT} (h : kndB a.k = false) : a.err = 1 := by
  unfold ActT.err
  refine if_pos ?_
  unfold kndB at h
  simp only [Bool.and_eq_false_iff, decide_eq_false_iff_not] at h
  unfold ActT.e1
  omega
theorem ActT.err_no {a : ActT} (h : kndB a.k = true) (h1 : a.no = true) : a.err = 1 := by
  unfold ActT.err
  rcases (ActT.no_iff h).1 h1 with h2 | h2
  · rw [if_pos h2]
  · rw [if_pos h2]; split <;> rfl
theorem ActT.err_yes {a : ActT} (h : kndB a.k = true) (h1 : a.no = false) : a.err = if a.text.size > 4096 then 2 else 0 := by
  have h2 : ¬ (a.e1 ∨ a.e2) := fun h9 => by rw [(ActT.no_iff h).2 h9] at h1; cases h1
  unfold ActT.err
  rw [if_neg fun h9 => h2 (.inl h9), if_neg fun h9 => h2 (.inr h9)]
theorem ActT.ok_of {a : ActT} (h : a.err = 0) : kndB a.k = true ∧ ¬ a.e1 ∧ ¬ a.e2 ∧ a.text.size ≤ 4096 := by
  unfold ActT.err at h
  split at h
  · omega
  · rename_i h1
    split at h
    · omega
    · rename_i h2
      split at h
      · omega
      · rename_i h3
        refine ⟨?_, h1, h2, by omega⟩
        unfold ActT.e1 at h1
        unfold kndB
        simp only [Bool.and_eq_true, decide_eq_true_eq]
        omega
theorem in_no32 {c : UInt8} (h : inI (c.toNat : Int) = true) : c ≠ 32 := fun e => by
  subst e
  exact absurd h (by decide)
theorem name_no32 {s : ByteArray} (h : nameB s = true) : ∀ c ∈ tb s, c ≠ 32 := by
  unfold nameB at h
  simp only [Bool.and_eq_true, decide_eq_true_eq] at h
  have h3 : runN s 0 inI = s.size := h.1.1.2
  unfold runN at h3
  intro c hc
  have hl : ((tb s).takeWhile fun b => inI (b.toNat : Int)).length = (tb s).length := by rw [tb_len]; exact h3
  have he : (tb s).takeWhile (fun b => inI (b.toNat : Int)) = tb s := (List.takeWhile_prefix _).eq_of_length hl
  have hm : c ∈ (tb s).takeWhile fun b => inI (b.toNat : Int) := by rw [he]; exact hc
  have h9 : ∀ (l : List UInt8), c ∈ l.takeWhile (fun b => inI (b.toNat : Int)) → inI (c.toNat : Int) = true := by
    intro l
    induction l with
    | nil => intro h; cases h
    | cons x l ih =>
      intro h
      rw [List.takeWhile_cons] at h
      split at h
      · rename_i hx
        rcases List.mem_cons.1 h with rfl | h
        · exact hx
        · exact ih h
      · cases h
  exact in_no32 (h9 _ hm)
theorem itoa_no32 (n : Int) : ∀ c ∈ Lib.itoa n, c ≠ 32 := by
  have h1 : ∀ c : UInt8, 48 ≤ c.toNat → c ≠ 32 := fun c hc e => by rw [e] at hc; exact absurd hc (by decide)
  by_cases h : n < 0
  · obtain ⟨m, rfl⟩ : ∃ m : Nat, n = -(m : Int) := ⟨(-n).toNat, by omega⟩
    rw [Lib.itoa_neg m (by omega)]
    intro c hc
    rcases List.mem_cons.1 hc with rfl | hc
    · decide
    · exact h1 c (tdec_digs m c hc).1
  · obtain ⟨m, rfl⟩ : ∃ m : Nat, n = (m : Int) := ⟨n.toNat, by omega⟩
    rw [Lib.itoa_nonneg m]
    intro c hc
    exact h1 c (tdec_digs m c hc).1
theorem wd_no32 (k : Int) : ∀ c ∈ tb (wdS k), c ≠ 32 := by
  unfold wdS
  repeat' split
  all_goals decide
theorem name_of {a : ActT} (h : ¬ a.e1) (h1 : 1 ≤ a.k) (h2 : a.k ≤ 5) : nameB a.name = true := by
  unfold ActT.e1 at h
  cases hn : nameB a.name with
  | true => rfl
  | false => exact absurd (.inr (.inr (.inr ⟨⟨h1, h2⟩, hn⟩))) h
structure PSt where
  rest : ByteArray
  bad : Bool
  act : ActT
def cutW (s : ByteArray) : ByteArray := ofL (Lib.cut (tb s) [32]).1
def cutR (s : ByteArray) : ByteArray := ofL (Lib.cut (tb s) [32]).2.1
def numB (p : PSt) : Bool := p.bad || !atOk (tb (cutW p.rest))
def numV (p : PSt) : Int := atV (tb (cutW p.rest))
def PSt.num (p : PSt) : PSt := ⟨cutR p.rest, numB p, p.act⟩
def useS (p : PSt) (c : Nat) : PSt :=
  if c = 110 then ⟨cutR p.rest, p.bad, { p.act with name := cutW p.rest }⟩
  else if c = 116 then ⟨ByteArray.empty, p.bad || !(unqL (tb p.rest)).isSome, { p.act with text := unqS p.rest }⟩
  else if c = 102 then ⟨cutR p.rest, numB p, { p.act with p1 := numV p }⟩
  else if c = 111 then ⟨cutR p.rest, numB p, { p.act with p2 := numV p }⟩
  else if c = 117 then ⟨cutR p.rest, numB p, { p.act with n := numV p }⟩
  else if c = 108 then ⟨cutR p.num.num.rest, numB p.num.num, { p.act with lb := numV p, ld := numV p.num, le := numV p.num.num }⟩
  else p
def useF (p : PSt) (l : List UInt8) : PSt := l.foldl (fun p c => useS p c.toNat) p
def kindOf (f : ByteArray) : Int := if f = wdS 7 then 7 else if f = wdS 6 then 6 else if f = wdS 5 then 5 else if f = wdS 4 then 4 else if f = wdS 3 then 3 else if f = wdS 2 then 2 else if f = wdS 1 then 1 else 0
def prgQ (s : ByteArray) : PSt := useF ⟨cutR s, false, ActT.none (kindOf (cutW s))⟩ (tb (usS (kindOf (cutW s))))
def prgOk (s : ByteArray) : Prop := kndB (kindOf (cutW s)) = true ∧ (prgQ s).bad = false ∧ (prgQ s).act.err = 0 ∧ (prgQ s).act.line = s
noncomputable def prgA (s : ByteArray) : ActT := by classical exact if prgOk s then (prgQ s).act else ActT.none 0
noncomputable def prgE (s : ByteArray) : Int := by classical exact if prgOk s then 0 else 3
theorem cut_sp {x r : List UInt8} (h : ∀ c ∈ x, c ≠ 32) : cutW (ofL (x ++ 32 :: r)) = ofL x ∧ cutR (ofL (x ++ 32 :: r)) = ofL r := by
  unfold cutW cutR
  rw [tb_ofL, cut1_at h]
  exact ⟨rfl, rfl⟩
theorem cut_fin {x : List UInt8} (h : ∀ c ∈ x, c ≠ 32) : cutW (ofL x) = ofL x ∧ cutR (ofL x) = ofL [] := by
  unfold cutW cutR
  rw [tb_ofL, cut1_no h]
  exact ⟨rfl, rfl⟩
theorem kindOf_wd {k : Int} (h : kndB k = true) : kindOf (wdS k) = k := by
  rcases kinds h with rfl | rfl | rfl | rfl | rfl | rfl | rfl <;> decide
theorem unq_qu (t : ByteArray) : (unqL (tb (ofL (quL (tb t))))).isSome = true ∧ unqS (ofL (quL (tb t))) = t := by
  have h := unqL_quL (tb t)
  unfold unqS
  rw [tb_ofL, ofL_data, h]
  exact ⟨rfl, ofL_tb t⟩
theorem num_sp {n : Int} (h : I64 n) {r : List UInt8} {b : Bool} {a : ActT} : numV ⟨ofL (Lib.itoa n ++ 32 :: r), b, a⟩ = n ∧ numB ⟨ofL (Lib.itoa n ++ 32 :: r), b, a⟩ = b ∧ cutR (ofL (Lib.itoa n ++ 32 :: r)) = ofL r := by
  have h1 := cut_sp (r := r) (itoa_no32 n)
  have h2 := at_itoa h.1 h.2
  unfold numV numB
  simp only
  rw [h1.1, tb_ofL, h2.1, h2.2]
  exact ⟨rfl, by simp, h1.2⟩
theorem num_fin {n : Int} (h : I64 n) {b : Bool} {a : ActT} : numV ⟨ofL (Lib.itoa n), b, a⟩ = n ∧ numB ⟨ofL (Lib.itoa n), b, a⟩ = b ∧ cutR (ofL (Lib.itoa n)) = ofL [] := by
  have h1 := cut_fin (itoa_no32 n)
  have h2 := at_itoa h.1 h.2
  unfold numV numB
  simp only
  rw [h1.1, tb_ofL, h2.1, h2.2]
  exact ⟨rfl, by simp, h1.2⟩
theorem cut_num (n : Int) (r : List UInt8) : cutR (ofL (Lib.itoa n ++ 32 :: r)) = ofL r := (cut_sp (itoa_no32 n)).2
theorem cut_nuf (n : Int) : cutR (ofL (Lib.itoa n)) = ofL [] := (cut_fin (itoa_no32 n)).2
theorem numV_sp {n : Int} (h : I64 n) (r : List UInt8) (b : Bool) (a : ActT) : numV ⟨ofL (Lib.itoa n ++ 32 :: r), b, a⟩ = n := num_sp h |>.1
theorem numB_sp {n : Int} (h : I64 n) (r : List UInt8) (b : Bool) (a : ActT) : numB ⟨ofL (Lib.itoa n ++ 32 :: r), b, a⟩ = b := (num_sp h).2.1
theorem numV_fin {n : Int} (h : I64 n) (b : Bool) (a : ActT) : numV ⟨ofL (Lib.itoa n), b, a⟩ = n := num_fin h |>.1
theorem numB_fin {n : Int} (h : I64 n) (b : Bool) (a : ActT) : numB ⟨ofL (Lib.itoa n), b, a⟩ = b := (num_fin h).2.1
theorem prg_line {a : ActT} (h : a.err = 0) (hf : a.fits) : kindOf (cutW a.text') = a.k ∧ prgQ a.text' = ⟨ofL [], false, a⟩ := by
  obtain ⟨hk, h1, h2, h3⟩ := ActT.ok_of h
  obtain ⟨k, name, p1, p2, text, n, lb, ld, le⟩ := a
  simp only at hk h1 h2 h3 ⊢
  obtain ⟨f1, f2, f3, f4, f5, f6⟩ := hf
  simp only at f1 f2 f3 f4 f5 f6
  have key : cutW (ActT.text' ⟨k, name, p1, p2, text, n, lb, ld, le⟩) = wdS k → kindOf (cutW (ActT.text' ⟨k, name, p1, p2, text, n, lb, ld, le⟩)) = k := fun e => by rw [e]; exact kindOf_wd hk
  unfold ActT.e2 at h2
  simp only [Ne, size0] at h2
  unfold prgQ
  rcases kinds hk with rfl | rfl | rfl | rfl | rfl | rfl | rfl
  · have hn := name_no32 (name_of h1 (by simp only; omega) (by simp only; omega))
    simp only at hn
    have hc := cut_sp (r := tb name ++ 32 :: quL (tb text)) (wd_no32 1)
    have hc2 := cut_sp (r := quL (tb text)) hn
    have hu := unq_qu text
    have k1 := key (hc.1.trans (ofL_tb _))
    refine ⟨k1, ?_⟩
    rw [k1]
    show useS (useS ⟨cutR (ofL (tb (wdS 1) ++ 32 :: (tb name ++ 32 :: quL (tb text)))), false, ActT.none 1⟩ 110) 116 = _
    rw [hc.2]
    simp only [useS, Nat.reduceEqDiff, ↓reduceIte, hc2.1, hc2.2, hu.1, hu.2, Bool.not_true, Bool.or_false, ofL_tb]
    simp only [ActT.none, PSt.mk.injEq, ActT.mk.injEq, true_and, and_true]
    refine ⟨rfl, ?_⟩
    grind
  · have hn := name_no32 (name_of h1 (by simp only; omega) (by simp only; omega))
    simp only at hn
    have hc := cut_sp (r := tb name ++ 32 :: (Lib.itoa p1 ++ 32 :: (Lib.itoa p2 ++ 32 :: quL (tb text)))) (wd_no32 2)
    have hc2 := cut_sp (r := Lib.itoa p1 ++ 32 :: (Lib.itoa p2 ++ 32 :: quL (tb text))) hn
    have hu := unq_qu text
    have k1 := key (hc.1.trans (ofL_tb _))
    refine ⟨k1, ?_⟩
    rw [k1]
    show useS (useS (useS (useS ⟨cutR (ofL (tb (wdS 2) ++ 32 :: (tb name ++ 32 :: (Lib.itoa p1 ++ 32 :: (Lib.itoa p2 ++ 32 :: quL (tb text)))))), false, ActT.none 2⟩ 110) 102) 111) 116 = _
    rw [hc.2]
    simp only [useS, Nat.reduceEqDiff, ↓reduceIte, hc2.1, hc2.2, numV_sp f1, numB_sp f1, cut_num, cut_nuf, numV_sp f2, numB_sp f2, hu.1, hu.2, Bool.not_true, Bool.or_false, ofL_tb]
    simp only [ActT.none, PSt.mk.injEq, ActT.mk.injEq, true_and, and_true]
    refine ⟨rfl, ?_⟩
    grind
  · have hn := name_no32 (name_of h1 (by simp only; omega) (by simp only; omega))
    simp only at hn
    have hc := cut_sp (r := tb name) (wd_no32 3)
    have hc2 := cut_fin hn
    rw [ofL_tb] at hc2
    have k1 := key (hc.1.trans (ofL_tb _))
    refine ⟨k1, ?_⟩
    rw [k1]
    show useS ⟨cutR (ofL (tb (wdS 3) ++ 32 :: tb name)), false, ActT.none 3⟩ 110 = _
    rw [hc.2]
    simp only [useS, Nat.reduceEqDiff, ↓reduceIte, hc2.1, hc2.2, ofL_tb]
    simp only [ActT.none, PSt.mk.injEq, ActT.mk.injEq, true_and, and_true]
    grind
  · have hn := name_no32 (name_of h1 (by simp only; omega) (by simp only; omega))
    simp only at hn
    have hc := cut_sp (r := tb name) (wd_no32 4)
    have hc2 := cut_fin hn
    rw [ofL_tb] at hc2
    have k1 := key (hc.1.trans (ofL_tb _))
    refine ⟨k1, ?_⟩
    rw [k1]
    show useS ⟨cutR (ofL (tb (wdS 4) ++ 32 :: tb name)), false, ActT.none 4⟩ 110 = _
    rw [hc.2]
    simp only [useS, Nat.reduceEqDiff, ↓reduceIte, hc2.1, hc2.2, ofL_tb]
    simp only [ActT.none, PSt.mk.injEq, ActT.mk.injEq, true_and, and_true]
    grind
  · have hn := name_no32 (name_of h1 (by simp only; omega) (by simp only; omega))
    simp only at hn
    have hc := cut_sp (r := tb name ++ 32 :: Lib.itoa n) (wd_no32 5)
    have hc2 := cut_sp (r := Lib.itoa n) hn
    have k1 := key (hc.1.trans (ofL_tb _))
    refine ⟨k1, ?_⟩
    rw [k1]
    show useS (useS ⟨cutR (ofL (tb (wdS 5) ++ 32 :: (tb name ++ 32 :: Lib.itoa n))), false, ActT.none 5⟩ 110) 117 = _
    rw [hc.2]
    simp only [useS, Nat.reduceEqDiff, ↓reduceIte, hc2.1, hc2.2, numV_fin f3, numB_fin f3, cut_num, cut_nuf, ofL_tb]
    simp only [ActT.none, PSt.mk.injEq, ActT.mk.injEq, true_and, and_true]
    grind
  · have hc := cut_sp (r := Lib.itoa lb ++ 32 :: (Lib.itoa ld ++ 32 :: Lib.itoa le)) (wd_no32 6)
    have k1 := key (hc.1.trans (ofL_tb _))
    refine ⟨k1, ?_⟩
    rw [k1]
    show useS ⟨cutR (ofL (tb (wdS 6) ++ 32 :: (Lib.itoa lb ++ 32 :: (Lib.itoa ld ++ 32 :: Lib.itoa le)))), false, ActT.none 6⟩ 108 = _
    rw [hc.2]
    simp only [useS, Nat.reduceEqDiff, ↓reduceIte, PSt.num, numV_sp f4, numB_sp f4, numV_sp f5, numB_sp f5, numV_fin f6, numB_fin f6, cut_num, cut_nuf]
    simp only [ActT.none, PSt.mk.injEq, ActT.mk.injEq, true_and, and_true]
    unfold ActT.e1 at h1
    simp only [Ne, size0] at h1
    have hn : name = ByteArray.empty := Classical.byContradiction fun h => h1 (.inr (.inr (.inl ⟨by omega, h⟩)))
    subst hn
    simp only [true_and]
    grind
  · have hc := cut_fin (wd_no32 7)
    have k1 := key (hc.1.trans (ofL_tb _))
    refine ⟨k1, ?_⟩
    rw [k1]
    show PSt.mk (cutR (ofL (tb (wdS 7)))) false (ActT.none 7) = _
    rw [hc.2]
    simp only [ActT.none, PSt.mk.injEq, ActT.mk.injEq, true_and, and_true]
    unfold ActT.e1 at h1
    simp only [Ne, size0] at h1
    have hn : name = ByteArray.empty := Classical.byContradiction fun h => h1 (.inr (.inr (.inl ⟨by omega, h⟩)))
    subst hn
    simp only [true_and]
    grind
theorem useS_fits {p : PSt} {c : Nat} (h : p.act.fits) : (useS p c).act.fits := by
  obtain ⟨h1, h2, h3, h4, h5, h6⟩ := h
  have hb : ∀ p : PSt, I64 (numV p) := fun p => atV_bounds _
  unfold useS
  repeat' split
  · exact ⟨h1, h2, h3, h4, h5, h6⟩
  · exact ⟨h1, h2, h3, h4, h5, h6⟩
  · exact ⟨hb _, h2, h3, h4, h5, h6⟩
  · exact ⟨h1, hb _, h3, h4, h5, h6⟩
  · exact ⟨h1, h2, hb _, h4, h5, h6⟩
  · exact ⟨h1, h2, h3, hb _, hb _, hb _⟩
  · exact ⟨h1, h2, h3, h4, h5, h6⟩
theorem useF_fits {p : PSt} (h : p.act.fits) (l : List UInt8) : (useF p l).act.fits := by
  unfold useF
  induction l generalizing p with
  | nil => exact h
  | cons c l ih => exact ih (useS_fits h)
theorem none_fits (k : Int) : (ActT.none k).fits := ⟨.zero, .zero, .zero, .zero, .zero, .zero⟩
theorem prgQ_fits (s : ByteArray) : (prgQ s).act.fits := useF_fits (none_fits _) _
def IsLine (s : ByteArray) (a : ActT) : Prop := a.fits ∧ a.err = 0 ∧ a.text' = s
theorem ActT.line_ok {a : ActT} (h : a.err = 0) : a.line = a.text' := if_pos h
theorem prg_yes {s : ByteArray} {a : ActT} (h : IsLine s a) : prgA s = a ∧ prgE s = 0 := by
  obtain ⟨h1, h2, rfl⟩ := h
  obtain ⟨h3, h4⟩ := prg_line h2 h1
  have hok : prgOk a.text' := ⟨by rw [h3]; exact (ActT.ok_of h2).1, by rw [h4], by rw [h4]; exact h2, by rw [h4]; exact ActT.line_ok h2⟩
  unfold prgA prgE
  rw [if_pos hok, if_pos hok, h4]
  exact ⟨rfl, rfl⟩
theorem prg_no {s : ByteArray} (h : ∀ a, ¬ IsLine s a) : prgA s = ActT.none 0 ∧ prgE s = 3 := by
  have hok : ¬ prgOk s := fun ⟨_, _, h2, h3⟩ => h (prgQ s).act ⟨prgQ_fits s, h2, by rw [← ActT.line_ok h2]; exact h3⟩
  unfold prgA prgE
  rw [if_neg hok, if_neg hok]
  exact ⟨rfl, rfl⟩
end Go.Proofs.YtmepcmphcghbeaaDoor
